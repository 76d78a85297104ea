/- Chapters 11 and 12: samples and keys, by the reference. -/
import Derived.Test.YtjkbhaaobhgkdabGreatDoorRTa2
import Derived.Test.YtjkbhaaobhgkdabGreatDoorRCA
import Derived.Test.YtjkbhaaobhgkdabGreatDoorRKa0
import Derived.Test.YtjkbhaaobhgkdabGreatDoorRCf1
import Derived.Test.YtjkbhaaobhgkdabGreatDoorRDr8
set_option linter.unusedVariables false
set_option linter.unnecessarySimpa false
set_option linter.unusedSimpArgs false
set_option maxHeartbeats 64000000
namespace Go.Proofs.YtjkbhaaobhgkdabGreatDoor
open Go Go.Av
attribute [local irreducible] D0 B0 D2 C7 DQ D1 C8 St.le A3 B6
set_option maxRecDepth 100000
abbrev uW(z:Int):Int:=IntKind.u64.wrap z
abbrev Uc(g:Int)(k:Int):Int:=g.fdiv (2 ^ min k.toNat IntKind.u64.bits)
abbrev lY(a b:Int):Int:=IntKind.u64.wrap ((BitVec.ofInt IntKind.u64.bits a ^^^ BitVec.ofInt IntKind.u64.bits b).toNat:Int)
def ZL(g:Int):Int:=lY (uW (uW (g*6364136223846793005)+1442695040888963407)) (Uc (uW (uW (g*6364136223846793005)+1442695040888963407)) 29)
def GG(f:Int→Int):Nat→Int→Int
 |0,g=>g
 |k+1,g=>GG f k (f g)
def Rc(seed id:Int):Int:=IntKind.i64.wrap (Uc (GG ZL 3 (uW (uW (uW (uW seed*2654435761)+uW (uW id*40503))+97))) 32)
theorem ZM(seed id:Int):A3 Tryz.prog 125 [.i seed,.i id] (.i (Rc seed id)):=by
 unfold Rc
 generalize hG:GG ZL 3 (uW (uW (uW (uW seed*2654435761)+uW (uW id*40503))+97))=G
 refine C0 Tryz.func125 29 fun nQ E h0=>?_
 clear nQ
 repeat'((first|refine S2 ?_|(refine T6 ?_ ?_<;>intro h<;>try exact V1 h)|intro el nN nP|intro el nN|exact T4|refine T5 ?_ ?_|intro ex)<;>try conv=>whnf)
 refine B2 (ι:=Nat×Int) (fun x=>⟨[(5,.v (.int .u64 x.2)),(6,.i x.1)],0,[]⟩)
  (fun x=>x.1≤3∧GG ZL (3-x.1) x.2=G) (fun x=>3-x.1) (0,uW (uW (uW (uW seed*2654435761)+uW (uW id*40503))+97)) ⟨Nat.zero_le _,hG⟩ (A6 h0) (fun x hI=>?_)
 obtain⟨k,g⟩:=x
 obtain⟨i1,i2⟩:=hI
 dsimp only at i1 i2 ⊢
 by_cases hk:k<3
 ·rw[show 3-k=(3-(k+1))+1 by omega,GG]at i2
  repeat'((first|refine S2 ?_|(refine T6 ?_ ?_<;>intro h<;>try exact V1 h)|intro el nN nP|intro el nN|exact T4|refine T5 ?_ ?_|intro ex)<;>try conv=>whnf)
  all_goals first
   |(exfalso;omega)
   |exact⟨(k+1,ZL g),⟨by dsimp only;omega,i2⟩,by dsimp only;omega,A6 h0⟩
 ·rw[show 3-k=0 by omega,GG]at i2
  subst i2
  repeat'((first|refine S2 ?_|(refine T6 ?_ ?_<;>intro h<;>try exact V1 h)|intro el nN nP|intro el nN|exact T4|refine T5 ?_ ?_|intro ex)<;>try conv=>whnf)
  all_goals first
   |(exfalso;omega)
   |exact A0 rfl rfl
def PR(part of seed:Int):Int:=if of<1∨1000<of∨part<1∨of<part∨seed<0∨1099511627776<seed then 2 else 0
theorem Ud(part of seed:Int):A3 Tryz.prog 124 [.agg [.i part,.i of,.i seed]] (.i (PR part of seed)):=by
 unfold PR
 refine C0 Tryz.func124 33 fun nQ E h0=>?_
 clear nQ
 repeat'((first|refine S2 ?_|(refine T6 ?_ ?_<;>intro h<;>try exact V1 h)|intro el nN nP|intro el nN|exact T4|refine T5 ?_ ?_|intro ex)<;>try conv=>whnf)
 all_goals first
  |(rw[if_pos (by omega)];exact A0 rfl rfl)
  |(rw[if_neg (by omega)];exact A0 rfl rfl)
def Ue(part of seed id:Int):Bool:=if PR part of seed=0∧1≤id∧id≤1048575 then decide ((Rc seed id).tmod of<part)else false
theorem fI(part of seed id:Int):A3 Tryz.prog 87 [.agg [.i part,.i of,.i seed],.i id] (.b (Ue part of seed id)):=by
 have h1:=Ud part of seed
 have h2:=ZM seed id
 unfold Ue
 have zb:PR part of seed=0→1≤of:=fun h=>by
  unfold PR at h
  split at h
  ·cases h
  ·omega
 generalize PR part of seed=e at *
 generalize Rc seed id=g at *
 by_cases hc:e=0∧1≤id∧id≤1048575
 ·rw[if_pos hc]
  obtain⟨rfl,qC,pc⟩:=hc
  have:=zb rfl
  refine C0 Tryz.func87 28 fun nQ E h0=>?_
  clear nQ
  repeat'((first|refine A1 h1 ?_|refine A1 h2 ?_|(refine B8 ?_ ?_;kernel_rfl) |refine S2 ?_|(refine T6 ?_ ?_<;>intro h<;>try exact V1 h)|intro el nN nP|intro el nN|exact T4|refine T5 ?_ ?_|intro ex)<;>try conv=>whnf)
  all_goals first
   |(exfalso;omega)
   |exact A0 rfl rfl
 ·rw[if_neg hc]
  refine C0 Tryz.func87 28 fun nQ E h0=>?_
  clear nQ
  repeat'((first|refine A1 h1 ?_|(refine B8 ?_ ?_;kernel_rfl) |refine S2 ?_|(refine T6 ?_ ?_<;>intro h<;>try exact V1 h)|intro el nN nP|intro el nN|exact T4|refine T5 ?_ ?_|intro ex)<;>try conv=>whnf)
  all_goals first
   |(exfalso;omega)
   |exact A0 rfl rfl
theorem mP(z:Int):0≤uW z∧uW z≤18446744073709551615:=by
 have:uW z=z % 18446744073709551616:=by
  unfold uW IntKind.wrap
  simp[IntKind.signed,IntKind.bits]
 rw[this]
 omega
theorem jV(g:Int):Uc g 54=g / 18014398509481984:=by
 show g.fdiv (2 ^ 54)=_
 rw[Int.fdiv_eq_ediv_of_nonneg _ (by decide)]
 rfl
def MW(g:Int):Int:=uW (lY g (Uc g 31)*13787848793156543929)
def MX(secret round half:Int):Int :=
 if secret<0∨1152921504606846976≤secret∨round<0∨7<round∨half<0∨1023<half then 0
 else IntKind.i64.wrap (Uc (GG MW 3 (uW (uW (uW secret+uW (uW round*11400714819323198485))+uW (uW half*14029467366897019727)))) 54)
theorem jW(secret round half:Int):0≤MX secret round half∧MX secret round half≤1023:=by
 unfold MX
 split
 ·exact⟨by decide,by decide⟩
 ·generalize uW (uW (uW secret+uW (uW round*11400714819323198485))+uW (uW half*14029467366897019727))=g
  have hb:0≤GG MW 3 g∧GG MW 3 g≤18446744073709551615:=mP _
  generalize GG MW 3 g=G at *
  rw[jV,O5 (by omega)]
  omega
theorem Vr(secret round half:Int):A3 Tryz.prog 89 [.i secret,.i round,.i half] (.i (MX secret round half)):=by
 unfold MX
 by_cases hc:secret<0∨1152921504606846976≤secret∨round<0∨7<round∨half<0∨1023<half
 ·rw[if_pos hc]
  refine C0 Tryz.func89 54 fun nQ E h0=>?_
  clear nQ
  repeat'((first|refine S2 ?_|(refine T6 ?_ ?_<;>intro h<;>try exact V1 h)|intro el nN nP|intro el nN|exact T4|refine T5 ?_ ?_|intro ex)<;>try conv=>whnf)
  all_goals first
   |(exfalso;omega)
   |exact A0 rfl rfl
 rw[if_neg hc]
 generalize hG:GG MW 3 (uW (uW (uW secret+uW (uW round*11400714819323198485))+uW (uW half*14029467366897019727)))=G
 refine C0 Tryz.func89 54 fun nQ E h0=>?_
 clear nQ
 repeat'((first|refine S2 ?_|(refine T6 ?_ ?_<;>intro h<;>try exact V1 h)|intro el nN nP|intro el nN|exact T4|refine T5 ?_ ?_|intro ex)<;>try conv=>whnf)
 all_goals first
  |(exfalso;omega)
  |skip
 refine B2 (ι:=Nat×Int) (fun x=>⟨[(7,.v (.int .u64 x.2)),(8,.i x.1)],0,[]⟩)
  (fun x=>x.1≤3∧GG MW (3-x.1) x.2=G) (fun x=>3-x.1) (0,uW (uW (uW secret+uW (uW round*11400714819323198485))+uW (uW half*14029467366897019727))) ⟨Nat.zero_le _,hG⟩ (A6 h0) (fun x hI=>?_)
 obtain⟨k,g⟩:=x
 obtain⟨i1,i2⟩:=hI
 dsimp only at i1 i2 ⊢
 by_cases hk:k<3
 ·rw[show 3-k=(3-(k+1))+1 by omega,GG]at i2
  repeat'((first|refine S2 ?_|(refine T6 ?_ ?_<;>intro h<;>try exact V1 h)|intro el nN nP|intro el nN|exact T4|refine T5 ?_ ?_|intro ex)<;>try conv=>whnf)
  all_goals first
   |(exfalso;omega)
   |exact⟨(k+1,MW g),⟨by dsimp only;omega,i2⟩,by dsimp only;omega,A6 h0⟩
 ·rw[show 3-k=0 by omega,GG]at i2
  subst i2
  repeat'((first|refine S2 ?_|(refine T6 ?_ ?_<;>intro h<;>try exact V1 h)|intro el nN nP|intro el nN|exact T4|refine T5 ?_ ?_|intro ex)<;>try conv=>whnf)
  all_goals first
   |(exfalso;omega)
   |exact A0 rfl rfl
def Jx(secret n:Int):Bool:=decide (0≤secret∧secret<1152921504606846976∧0≤n∧n<1048576)
theorem RI(secret n:Int):A3 Tryz.prog 88 [.i secret,.i n] (.b (Jx secret n)):=by
 unfold Jx
 by_cases hc:0≤secret∧secret<1152921504606846976∧0≤n∧n<1048576
 ·rw[decide_eq_true hc]
  refine C0 Tryz.func88 19 fun nQ E h0=>?_
  clear nQ
  repeat'((first|refine S2 ?_|(refine T6 ?_ ?_<;>intro h<;>try exact V1 h)|intro el nN nP|intro el nN|exact T4|refine T5 ?_ ?_|intro ex)<;>try conv=>whnf)
  all_goals first
   |(exfalso;omega)
   |exact A0 rfl rfl
   |exact A0 rfl (congrArg AV.b (decide_eq_true (by omega)))
 ·rw[decide_eq_false hc]
  refine C0 Tryz.func88 19 fun nQ E h0=>?_
  clear nQ
  repeat'((first|refine S2 ?_|(refine T6 ?_ ?_<;>intro h<;>try exact V1 h)|intro el nN nP|intro el nN|exact T4|refine T5 ?_ ?_|intro ex)<;>try conv=>whnf)
  all_goals first
   |(exfalso;omega)
   |exact A0 rfl rfl
   |exact A0 rfl (congrArg AV.b (decide_eq_false (by omega)))
abbrev ZN(a b:Int):Int:=IntKind.i64.wrap ((BitVec.ofInt IntKind.i64.bits a ^^^ BitVec.ofInt IntKind.i64.bits b).toNat:Int)
theorem Le{a:Int}(h0:0≤a)(h1:a≤1023):(BitVec.ofInt 64 a).toNat<2 ^ 10:=by
 rw[BitVec.toNat_ofInt]
 omega
theorem jX{a b:Int}(ha:0≤a∧a≤1023)(hb:0≤b∧b≤1023):0≤ZN a b∧ZN a b≤1023:=by
 have h:(BitVec.ofInt 64 a ^^^ BitVec.ofInt 64 b).toNat<2 ^ 10:=by
  rw[BitVec.toNat_xor]
  exact Nat.xor_lt_two_pow (Le ha.1 ha.2) (Le hb.1 hb.2)
 show 0≤IntKind.i64.wrap ((BitVec.ofInt 64 a ^^^ BitVec.ofInt 64 b).toNat:Int)∧IntKind.i64.wrap ((BitVec.ofInt 64 a ^^^ BitVec.ofInt 64 b).toNat:Int)≤1023
 generalize (BitVec.ofInt 64 a ^^^ BitVec.ofInt 64 b).toNat=n at *
 rw[O5 (by omega)]
 omega
def EH(secret id:Int):Nat→Int×Int
 |0=>(id.tdiv 1024,id.tmod 1024)
 |i+1=>((EH secret id i).2,ZN (EH secret id i).1 (MX secret i (EH secret id i).2))
def Fg(secret id:Int):Int:=if Jx secret id=true then (EH secret id 8).1*1024+(EH secret id 8).2 else -1
theorem Uf{secret id:Int}(h:0≤id∧id<1048576):∀i,(0≤(EH secret id i).1∧(EH secret id i).1≤1023)∧(0≤(EH secret id i).2∧(EH secret id i).2≤1023)
 |0=>by
  unfold EH
  dsimp only
  rw[Int.tdiv_eq_ediv_of_nonneg h.1,Int.tmod_eq_emod_of_nonneg h.1]
  omega
 |i+1=>by
  have ih:=Uf (secret:=secret) h i
  unfold EH
  exact⟨ih.2,jX ih.1 (jW _ _ _)⟩
theorem jY{secret id:Int}(h:Jx secret id=true):0≤Fg secret id∧Fg secret id≤1048575:=by
 unfold Fg
 rw[if_pos h]
 unfold Jx at h
 have h:=of_decide_eq_true h
 have:=Uf (secret:=secret) (id:=id) ⟨h.2.2.1,h.2.2.2⟩ 8
 omega
theorem bu(secret id:Int):A3 Tryz.prog 46 [.i secret,.i id] (.i (Fg secret id)):=by
 have h1:=RI secret id
 unfold Fg
 cases hb:Jx secret id with
 |false =>
  rw[if_neg (by decide)]
  rw[hb]at h1
  refine C0 Tryz.func46 31 fun nQ E h0=>?_
  clear nQ
  repeat'((first|refine A1 h1 ?_ |refine S2 ?_|(refine T6 ?_ ?_<;>intro h<;>try exact V1 h)|intro el nN nP|intro el nN|exact T4|refine T5 ?_ ?_|intro ex)<;>try conv=>whnf)
  all_goals first
   |(exfalso;omega)
   |exact A0 rfl rfl
 |true =>
  rw[if_pos rfl]
  rw[hb]at h1
  unfold Jx at hb
  have hb:=of_decide_eq_true hb
  have sI:=Uf (secret:=secret) (id:=id) ⟨hb.2.2.1,hb.2.2.2⟩
  have ug:0≤id.tdiv 1024∧id.tdiv 1024≤1023:=by rw[Int.tdiv_eq_ediv_of_nonneg hb.2.2.1];omega
  have h2:=fun (i half:Int)=>Vr secret i half
  have hs:∀i:Nat,EH secret id (i+1)=((EH secret id i).2,ZN (EH secret id i).1 (MX secret i (EH secret id i).2)):=fun _=>rfl
  have hz:EH secret id 0=(id.tdiv 1024,id.tmod 1024):=rfl
  generalize EH secret id=K at *
  refine C0 Tryz.func46 31 fun nQ E h0=>?_
  clear nQ
  repeat'((first|refine A1 h1 ?_|(refine B8 ?_ ?_;kernel_rfl) |refine S2 ?_|(refine T6 ?_ ?_<;>intro h<;>try exact V1 h)|intro el nN nP|intro el nN|exact T4|refine T5 ?_ ?_|intro ex)<;>try conv=>whnf)
  all_goals first
   |(exfalso;omega)
   |skip
  refine B2 (ι:=Nat) (fun i=>⟨[(0,.i secret),(5,.i (K i).1),(6,.i (K i).2),(7,.i i)],0,[]⟩) (fun i=>i≤8) (fun i=>8-i) 0 (Nat.zero_le _)
   (A8 h0 rfl ⟨rfl,congrArg (fun z:Int×Int=>some (AV.i z.1)) hz.symm,congrArg (fun z:Int×Int=>some (AV.i z.2)) hz.symm,rfl,trivial⟩ trivial rfl rfl rfl) (fun i hi=>?_)
  have hbi:=sI i
  have hsi:=hs i
  have h3:=h2 i (K i).2
  by_cases hi8:i<8
  ·repeat'((first|refine A1 h3 ?_|(refine B8 ?_ ?_;kernel_rfl) |refine S2 ?_|(refine T6 ?_ ?_<;>intro h<;>try exact V1 h)|intro el nN nP|intro el nN|exact T4|refine T5 ?_ ?_|intro ex)<;>try conv=>whnf)
   all_goals first
    |(exfalso;omega)
    |exact⟨i+1,by omega,by omega,A8 h0 rfl ⟨rfl,congrArg (fun z:Int×Int=>some (AV.i z.1)) hsi.symm,congrArg (fun z:Int×Int=>some (AV.i z.2)) hsi.symm,rfl,trivial⟩ trivial rfl rfl rfl⟩
  ·obtain rfl:i=8:=by omega
   repeat'((first|refine S2 ?_|(refine T6 ?_ ?_<;>intro h<;>try exact V1 h)|intro el nN nP|intro el nN|exact T4|refine T5 ?_ ?_|intro ex)<;>try conv=>whnf)
   all_goals first
    |(exfalso;omega)
    |exact A0 rfl rfl
def CX(l:List UInt8)(s:A4):Nat→List (List Int)×Nat→List (List Int)×Nat
 |0,x=>x
 |n+1,x=>CX l s n (o6 x.1 (j5 l x.2 s).1,(j5 l x.2 s).2)
def Az(l:List UInt8)(a:Nat)(most:Int):(A4×List (List Int))×Nat :=
 let r:=CX l (Bz l a).1 (B3 l (Bz l a).2 (most+1)).1 ([],(B3 l (Bz l a).2 (most+1)).2)
 (((Bz l a).1,r.1),r.2)
theorem XD{s:A4}(hd:C4 s)(l:List UInt8)(a:Nat):(j5 l a s).1≠[]:=by
 have h:=(iU hd l a).1
 have h2:=hd.lens
 intro e
 rw[e]at h
 simp at h;omega
theorem jZ{row:List Int}(hr:row≠[]){q:List (List Int)×Bool}{x:List Int}(hx:x≠[])(hq:∀y∈q.1,y≠[]):∀y∈(o5 row q x).1,y≠[]:=by
 obtain⟨out,done⟩:=q
 simp only[o5]
 split
 ·exact hq
 ·split
  ·intro y hy
   simp only[List.mem_append,List.mem_singleton]at hy
   rcases hy with (hy|rfl)|rfl
   ·exact hq y hy
   ·exact hr
   ·exact hx
  ·intro y hy
   simp only[List.mem_append,List.mem_singleton]at hy
   rcases hy with hy|rfl
   ·exact hq y hy
   ·exact hx
theorem XE{l:List (List Int)}{row:List Int}(hr:row≠[])(hl:∀y∈l,y≠[]):∀y∈o6 l row,y≠[]:=by
 have key:∀(l:List (List Int)) (q:List (List Int)×Bool),(∀y∈l,y≠[])→(∀y∈q.1,y≠[])→∀y∈(l.foldl (o5 row) q).1,y≠[]:=by
  intro l
  induction l with
  |nil=>intro q _ hq;exact hq
  |cons x r ih=>intro q hl hq;exact ih _ (fun y hy=>hl y (by simp[hy])) (jZ hr (hl x (by simp)) hq)
 have h:=key l ([],false) hl (fun y hy=>by cases hy)
 unfold o6
 dsimp only at h ⊢
 split
 ·exact h
 ·intro y hy
  simp only[List.mem_append,List.mem_singleton]at hy
  rcases hy with hy|rfl
  ·exact h y hy
  ·exact hr
abbrev Q1(s:A4)(rows:List (List Int)):List AV:=[.sl 2 (s.lists.map z1),.sl 7 (s.cols.map W5),.sl 1 (rows.map H1),.v (.slice none 0 0),.i 0]
abbrev lZ:Nat:=32
theorem fJ(l:List UInt8)(a:Nat)(most:Int)(hl:l.length≤400)(hm:0≤most)(qt:most≤1000):B6 Tryz.prog 11 1 (V3 l a) [.ref 0 0,.i most] 1 (V3 l (Az l a most).2) (.agg (Q1 (Az l a most).1.1 (Az l a most).1.2)):=by
 have h1:=bK l a hl
 have hd:=Nm l a
 unfold Az
 dsimp only
 generalize Bz l a=S at *
 obtain⟨s,a1⟩:=S
 dsimp only at h1 hd ⊢
 have h2:=J2 l a1 (most+1) hl
 have h3:=F9 l a1 (n:=most+1) (by omega)
 generalize B3 l a1 (most+1)=Q at *
 obtain⟨n,a2⟩:=Q
 dsimp only at h2 h3 ⊢
 refine X6 Tryz.func11 28 fun E h0=>?_
 repeat'((first|refine S2 ?_|(refine T6 ?_ ?_<;>intro h<;>try exact V1 h)|intro el nN nP|intro el nN|exact T4|refine T5 ?_ ?_|intro ex|refine nc [0] [0] h1 rfl rfl rfl ⟨rfl,trivial⟩ ?_|refine nc [0] [0] h2 rfl rfl rfl ⟨rfl,trivial⟩ ?_)<;>try conv=>whnf)
 clear h1 h2
 refine B2 (ι:=Nat×List (List Int)×Nat) (fun x=>⟨[(0,.ref 0 0),(4,.ref 1 0),(5,.iptr (sL s)),(6,.ref 3 0),(7,.i x.1)],4,[(0,some (.box [.sl 1 (l.map O2),.i x.2.2])),(1,some (.box [.v (.slice none 0 0),.v (.slice none 0 0),.v (.slice none 0 0),.v (.slice none 0 0),.i 0])),(3,some (.box (Q1 s x.2.1)))]⟩)
  (fun x=>x.1≤n∧x.2.1.length≤n-x.1∧(∀y∈x.2.1,y≠[])∧CX l s n ([],a2)=CX l s x.1 x.2) (fun x=>x.1) (n,[],a2) ⟨Nat.le_refl _,by simp,(fun y hy=>by cases hy),rfl⟩
  (C2 (bG 3 (Q1 s []) rfl ⟨.refl _,.refl _,.nil 1,.refl _,.refl _,trivial⟩) (A6 h0)) (fun x hI=>?_)
 obtain⟨k,rows,b⟩:=x
 obtain⟨hk,nO,hne,hI⟩:=hI
 dsimp only at hk nO hne hI ⊢
 cases k with
 |zero =>
  rw[hI]
  simp only[CX]
  repeat'((first|refine S2 ?_|(refine T6 ?_ ?_<;>intro h<;>try exact V1 h)|intro el nN nP|intro el nN|exact T4|refine T5 ?_ ?_|intro ex)<;>try conv=>whnf)
  all_goals first
   |exact L8 (rvs:=[.cell 4 lZ]) (vs:=[_]) ⟨1,_,_,rfl,rfl,inferInstance,rfl,rfl,trivial⟩ rfl rfl (A6 h0) rfl
   |(exfalso;omega)
 |succ k =>
  have nk:=bL l b s hd hl
  have qm:=Tg rows (j5 l b s).1 (by omega) hne (XD hd l b)
  have qA:=Hr rows (j5 l b s).1
  have hpn:=XE (XD hd l b) hne
  have ul:CX l s (k+1) (rows,b)=CX l s k (o6 rows (j5 l b s).1,(j5 l b s).2):=rfl
  rw[ul]at hI
  generalize o6 rows (j5 l b s).1=uZ at *
  generalize j5 l b s=R at *
  obtain⟨r,b2⟩:=R
  dsimp only at nk qm hI ul
  repeat'((first|(refine G3 6 ?_;refine P5 (id:=6) (σ':=⟨[(0,.ref 0 0),(4,.ref 1 0),(5,.iptr (sL s)),(6,.ref 3 0),(7,.i ((k+1:Nat):Int))],4,[(0,some (.box [.sl 1 (l.map O2),.i b])),(1,some (.box [.v (.slice none 0 0),.v (.slice none 0 0),.v (.slice none 0 0),.v (.slice none 0 0),.i 0])),(3,some (.box (Q1 s rows)))]⟩) (A6 h0) ?_;refine H4 (id:=6) ⟨[(0,.ref 0 0),(4,.ref 1 0),(5,.iptr (sL s)),(6,.ref 3 0),(7,.i ((k+1:Nat):Int))],4,[(0,some (.box [.sl 1 (l.map O2),.i b2])),(1,some (.box [.v (.slice none 0 0),.v (.slice none 0 0),.v (.slice none 0 0),.v (.slice none 0 0),.i 0])),(3,some (.box (Q1 s uZ)))]⟩ ?_ ?_) |refine S2 ?_|(refine T6 ?_ ?_<;>intro h<;>try exact V1 h)|intro el nN nP|intro el nN|exact T4|refine T5 ?_ ?_|intro ex|refine nc [0] [0] nk rfl rfl rfl ⟨rfl,trivial⟩ ?_|refine A1 qm ?_)<;>try conv=>whnf)
  all_goals first
   |exact A8 h0 rfl ⟨rfl,rfl,rfl,rfl,rfl,trivial⟩ ⟨rfl,rfl,rfl,trivial⟩ rfl rfl rfl
   |exact⟨(k,uZ,b2),⟨by dsimp only;omega,by dsimp only;omega,hpn,hI⟩,by dsimp only;omega,A8 h0 rfl ⟨rfl,rfl,rfl,rfl,congrArg (fun z:Int=>some (AV.i z)) (by omega),trivial⟩ ⟨rfl,rfl,rfl,trivial⟩ rfl rfl rfl⟩
   |(exfalso;omega)
end Go.Proofs.YtjkbhaaobhgkdabGreatDoor

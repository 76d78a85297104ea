/- Chapter 12: keys, by the reference. -/
import Derived.Test.YtiphlhoclaogjaaGreatDoorJTx0
import Derived.Test.YtiphlhoclaogjaaGreatDoorJTa1
import Derived.Test.YtiphlhoclaogjaaGreatDoorJD2
import Derived.Test.YtiphlhoclaogjaaGreatDoorJQn2
import Derived.Test.YtiphlhoclaogjaaGreatDoorJCe9
set_option linter.unusedVariables false
set_option linter.unnecessarySimpa false
set_option linter.unusedSimpArgs false
set_option maxHeartbeats 64000000
namespace Go.Proofs.YtiphlhoclaogjaaGreatDoor
open Go Go.Av
attribute [local irreducible] C9 B3 C8 D1 DQ D0 C7 St.le A3 B8
set_option maxRecDepth 100000
theorem mT(z:Int):0≤uW z∧uW z≤18446744073709551615:=by
 have:uW z=z % 18446744073709551616:=by
  unfold uW IntKind.wrap
  simp[IntKind.signed,IntKind.bits]
 rw[this]
 omega
theorem jj(g:Int):VJ g 54=g / 18014398509481984:=by
 show g.fdiv (2 ^ 54)=_
 rw[Int.fdiv_eq_ediv_of_nonneg _ (by decide)]
 rfl
def NA(g:Int):Int:=uW (lj g (VJ g 31)*13787848793156543929)
def NB(secret round half:Int):Int :=
 if secret<0∨1152921504606846976≤secret∨round<0∨7<round∨half<0∨1023<half then 0
 else IntKind.i64.wrap (VJ (Gn NA 3 (uW (uW (uW secret+uW (uW round*11400714819323198485))+uW (uW half*14029467366897019727)))) 54)
theorem jk(secret round half:Int):0≤NB secret round half∧NB secret round half≤1023:=by
 unfold NB
 split
 ·exact⟨by decide,by decide⟩
 ·generalize uW (uW (uW secret+uW (uW round*11400714819323198485))+uW (uW half*14029467366897019727))=g
  have hb:0≤Gn NA 3 g∧Gn NA 3 g≤18446744073709551615:=mT _
  generalize Gn NA 3 g=G at *
  rw[jj,Q2 (by omega)]
  omega
theorem WP(secret round half:Int):A3 Tryz.prog 149 [.i secret,.i round,.i half] (.i (NB secret round half)):=by
 unfold NB
 by_cases hc:secret<0∨1152921504606846976≤secret∨round<0∨7<round∨half<0∨1023<half
 ·rw[if_pos hc]
  refine B5 Tryz.func149 54 fun nL E h0=>?_
  clear nL
  repeat'((first|refine S2 ?_|(refine T6 ?_ ?_<;>intro h<;>try exact V1 h)|intro el nJ nK|intro el nJ|exact T4|refine T5 ?_ ?_|intro ex)<;>try conv=>whnf)
  all_goals first
   |(exfalso;omega)
   |exact A1 rfl rfl
 rw[if_neg hc]
 generalize hG:Gn NA 3 (uW (uW (uW secret+uW (uW round*11400714819323198485))+uW (uW half*14029467366897019727)))=G
 refine B5 Tryz.func149 54 fun nL E h0=>?_
 clear nL
 repeat'((first|refine S2 ?_|(refine T6 ?_ ?_<;>intro h<;>try exact V1 h)|intro el nJ nK|intro el nJ|exact T4|refine T5 ?_ ?_|intro ex)<;>try conv=>whnf)
 all_goals first
  |(exfalso;omega)
  |skip
 refine B0 (ι:=Nat×Int) (fun x=>⟨[(7,.v (.int .u64 x.2)),(8,.i x.1)],0,[]⟩)
  (fun x=>x.1≤3∧Gn NA (3-x.1) x.2=G) (fun x=>3-x.1) (0,uW (uW (uW secret+uW (uW round*11400714819323198485))+uW (uW half*14029467366897019727))) ⟨Nat.zero_le _,hG⟩ (A6 h0) (fun x hI=>?_)
 obtain⟨k,g⟩:=x
 obtain⟨i1,i2⟩:=hI
 dsimp only at i1 i2 ⊢
 by_cases hk:k<3
 ·rw[show 3-k=(3-(k+1))+1 by omega,Gn]at i2
  repeat'((first|refine S2 ?_|(refine T6 ?_ ?_<;>intro h<;>try exact V1 h)|intro el nJ nK|intro el nJ|exact T4|refine T5 ?_ ?_|intro ex)<;>try conv=>whnf)
  all_goals first
   |(exfalso;omega)
   |exact⟨(k+1,NA g),⟨by dsimp only;omega,i2⟩,by dsimp only;omega,A6 h0⟩
 ·rw[show 3-k=0 by omega,Gn]at i2
  subst i2
  repeat'((first|refine S2 ?_|(refine T6 ?_ ?_<;>intro h<;>try exact V1 h)|intro el nJ nK|intro el nJ|exact T4|refine T5 ?_ ?_|intro ex)<;>try conv=>whnf)
  all_goals first
   |(exfalso;omega)
   |exact A1 rfl rfl
def VM(secret n:Int):Bool:=decide (0≤secret∧secret<1152921504606846976∧0≤n∧n<1048576)
theorem Rq(secret n:Int):A3 Tryz.prog 148 [.i secret,.i n] (.b (VM secret n)):=by
 unfold VM
 by_cases hc:0≤secret∧secret<1152921504606846976∧0≤n∧n<1048576
 ·rw[decide_eq_true hc]
  refine B5 Tryz.func148 19 fun nL E h0=>?_
  clear nL
  repeat'((first|refine S2 ?_|(refine T6 ?_ ?_<;>intro h<;>try exact V1 h)|intro el nJ nK|intro el nJ|exact T4|refine T5 ?_ ?_|intro ex)<;>try conv=>whnf)
  all_goals first
   |(exfalso;omega)
   |exact A1 rfl rfl
   |exact A1 rfl (congrArg AV.b (decide_eq_true (by omega)))
 ·rw[decide_eq_false hc]
  refine B5 Tryz.func148 19 fun nL E h0=>?_
  clear nL
  repeat'((first|refine S2 ?_|(refine T6 ?_ ?_<;>intro h<;>try exact V1 h)|intro el nJ nK|intro el nJ|exact T4|refine T5 ?_ ?_|intro ex)<;>try conv=>whnf)
  all_goals first
   |(exfalso;omega)
   |exact A1 rfl rfl
   |exact A1 rfl (congrArg AV.b (decide_eq_false (by omega)))
abbrev Zf(a b:Int):Int:=IntKind.i64.wrap ((BitVec.ofInt IntKind.i64.bits a ^^^ BitVec.ofInt IntKind.i64.bits b).toNat:Int)
theorem MD{a:Int}(h0:0≤a)(h1:a≤1023):(BitVec.ofInt 64 a).toNat<2 ^ 10:=by
 rw[BitVec.toNat_ofInt]
 omega
theorem jl{a b:Int}(ha:0≤a∧a≤1023)(hb:0≤b∧b≤1023):0≤Zf a b∧Zf a b≤1023:=by
 have h:(BitVec.ofInt 64 a ^^^ BitVec.ofInt 64 b).toNat<2 ^ 10:=by
  rw[BitVec.toNat_xor]
  exact Nat.xor_lt_two_pow (MD ha.1 ha.2) (MD hb.1 hb.2)
 show 0≤IntKind.i64.wrap ((BitVec.ofInt 64 a ^^^ BitVec.ofInt 64 b).toNat:Int)∧IntKind.i64.wrap ((BitVec.ofInt 64 a ^^^ BitVec.ofInt 64 b).toNat:Int)≤1023
 generalize (BitVec.ofInt 64 a ^^^ BitVec.ofInt 64 b).toNat=n at *
 rw[Q2 (by omega)]
 omega
def Em(secret id:Int):Nat→Int×Int
 |0=>(id.tdiv 1024,id.tmod 1024)
 |i+1=>((Em secret id i).2,Zf (Em secret id i).1 (NB secret i (Em secret id i).2))
def VN(secret id:Int):Int:=if VM secret id=true then (Em secret id 8).1*1024+(Em secret id 8).2 else -1
theorem cP{secret id:Int}(h:0≤id∧id<1048576):∀i,(0≤(Em secret id i).1∧(Em secret id i).1≤1023)∧(0≤(Em secret id i).2∧(Em secret id i).2≤1023)
 |0=>by
  unfold Em
  dsimp only
  rw[Int.tdiv_eq_ediv_of_nonneg h.1,Int.tmod_eq_emod_of_nonneg h.1]
  omega
 |i+1=>by
  have ih:=cP (secret:=secret) h i
  unfold Em
  exact⟨ih.2,jl ih.1 (jk _ _ _)⟩
theorem cQ(secret id:Int):A3 Tryz.prog 96 [.i secret,.i id] (.i (VN secret id)):=by
 have h1:=Rq secret id
 unfold VN
 cases hb:VM secret id with
 |false =>
  rw[if_neg (by decide)]
  rw[hb]at h1
  refine B5 Tryz.func96 31 fun nL E h0=>?_
  clear nL
  repeat'((first|refine A0 h1 ?_ |refine S2 ?_|(refine T6 ?_ ?_<;>intro h<;>try exact V1 h)|intro el nJ nK|intro el nJ|exact T4|refine T5 ?_ ?_|intro ex)<;>try conv=>whnf)
  all_goals first
   |(exfalso;omega)
   |exact A1 rfl rfl
 |true =>
  rw[if_pos rfl]
  rw[hb]at h1
  unfold VM at hb
  have hb:=of_decide_eq_true hb
  have st:=cP (secret:=secret) (id:=id) ⟨hb.2.2.1,hb.2.2.2⟩
  have tK:0≤id.tdiv 1024∧id.tdiv 1024≤1023:=by rw[Int.tdiv_eq_ediv_of_nonneg hb.2.2.1];omega
  have h2:=fun (i half:Int)=>WP secret i half
  have hs:∀i:Nat,Em secret id (i+1)=((Em secret id i).2,Zf (Em secret id i).1 (NB secret i (Em secret id i).2)):=fun _=>rfl
  have hz:Em secret id 0=(id.tdiv 1024,id.tmod 1024):=rfl
  generalize Em secret id=K at *
  refine B5 Tryz.func96 31 fun nL E h0=>?_
  clear nL
  repeat'((first|refine A0 h1 ?_|(refine A9 ?_ ?_;kernel_rfl) |refine S2 ?_|(refine T6 ?_ ?_<;>intro h<;>try exact V1 h)|intro el nJ nK|intro el nJ|exact T4|refine T5 ?_ ?_|intro ex)<;>try conv=>whnf)
  all_goals first
   |(exfalso;omega)
   |skip
  refine B0 (ι:=Nat) (fun i=>⟨[(0,.i secret),(5,.i (K i).1),(6,.i (K i).2),(7,.i i)],0,[]⟩) (fun i=>i≤8) (fun i=>8-i) 0 (Nat.zero_le _)
   (A7 h0 rfl ⟨rfl,congrArg (fun z:Int×Int=>some (AV.i z.1)) hz.symm,congrArg (fun z:Int×Int=>some (AV.i z.2)) hz.symm,rfl,trivial⟩ trivial rfl rfl rfl) (fun i hi=>?_)
  have hbi:=st i
  have hsi:=hs i
  have h3:=h2 i (K i).2
  by_cases hi8:i<8
  ·repeat'((first|refine A0 h3 ?_|(refine A9 ?_ ?_;kernel_rfl) |refine S2 ?_|(refine T6 ?_ ?_<;>intro h<;>try exact V1 h)|intro el nJ nK|intro el nJ|exact T4|refine T5 ?_ ?_|intro ex)<;>try conv=>whnf)
   all_goals first
    |(exfalso;omega)
    |exact⟨i+1,by omega,by omega,A7 h0 rfl ⟨rfl,congrArg (fun z:Int×Int=>some (AV.i z.1)) hsi.symm,congrArg (fun z:Int×Int=>some (AV.i z.2)) hsi.symm,rfl,trivial⟩ trivial rfl rfl rfl⟩
  ·obtain rfl:i=8:=by omega
   repeat'((first|refine S2 ?_|(refine T6 ?_ ?_<;>intro h<;>try exact V1 h)|intro el nJ nK|intro el nJ|exact T4|refine T5 ?_ ?_|intro ex)<;>try conv=>whnf)
   all_goals first
    |(exfalso;omega)
    |exact A1 rfl rfl
def DL(l:List UInt8)(s:A4):Nat→List (List Int)×Nat→List (List Int)×Nat
 |0,x=>x
 |n+1,x=>DL l s n (Bo x.1 (o7 l x.2 s).1,(o7 l x.2 s).2)
def Bt(l:List UInt8)(a:Nat)(most:Int):(A4×List (List Int))×Nat :=
 let r:=DL l (Cp l a).1 (C1 l (Cp l a).2 (most+1)).1 ([],(C1 l (Cp l a).2 (most+1)).2)
 (((Cp l a).1,r.1),r.2)
theorem XT{s:A4}(hd:E4 s)(l:List UInt8)(a:Nat):(o7 l a s).1≠[]:=by
 have h:=(ik hd l a).1
 have h2:=hd.lens
 intro e
 rw[e]at h
 simp at h;omega
theorem jm{row:List Int}(hr:row≠[]){q:List (List Int)×Bool}{x:List Int}(hx:x≠[])(hq:∀y∈q.1,y≠[]):∀y∈(z6 row q x).1,y≠[]:=by
 obtain⟨out,done⟩:=q
 simp only[z6]
 split
 ·exact hq
 ·split
  ·intro y hy
   simp only[List.mem_append,List.mem_singleton]at hy
   rcases hy with (hy|rfl)|rfl
   ·exact hq y hy
   ·exact hr
   ·exact hx
  ·intro y hy
   simp only[List.mem_append,List.mem_singleton]at hy
   rcases hy with hy|rfl
   ·exact hq y hy
   ·exact hx
theorem XU{l:List (List Int)}{row:List Int}(hr:row≠[])(hl:∀y∈l,y≠[]):∀y∈Bo l row,y≠[]:=by
 have key:∀(l:List (List Int)) (q:List (List Int)×Bool),(∀y∈l,y≠[])→(∀y∈q.1,y≠[])→∀y∈(l.foldl (z6 row) q).1,y≠[]:=by
  intro l
  induction l with
  |nil=>intro q _ hq;exact hq
  |cons x r ih=>intro q hl hq;exact ih _ (fun y hy=>hl y (by simp[hy])) (jm hr (hl x (by simp)) hq)
 have h:=key l ([],false) hl (fun y hy=>by cases hy)
 unfold Bo
 dsimp only at h ⊢
 split
 ·exact h
 ·intro y hy
  simp only[List.mem_append,List.mem_singleton]at hy
  rcases hy with hy|rfl
  ·exact h y hy
  ·exact hr
abbrev R2(s:A4)(rows:List (List Int)):List AV:=[.sl 2 (s.lists.map As),.sl 7 (s.cols.map U6),.sl 1 (rows.map D4),.v (.slice none 0 0),.i 0]
abbrev lk:Nat:=39
theorem fZ(l:List UInt8)(a:Nat)(most:Int)(hl:l.length≤400)(hm:0≤most)(sH:most≤1000):B8 Tryz.prog 36 1 (X7 l a) [.ref 0 0,.i most] 1 (X7 l (Bt l a most).2) (.agg (R2 (Bt l a most).1.1 (Bt l a most).1.2)):=by
 have h1:=bU l a hl
 have hd:=OT l a
 unfold Bt
 dsimp only
 generalize Cp l a=S at *
 obtain⟨s,a1⟩:=S
 dsimp only at h1 hd ⊢
 have h2:=J8 l a1 (most+1) hl
 have h3:=I4 l a1 (n:=most+1) (by omega)
 generalize C1 l a1 (most+1)=Q at *
 obtain⟨n,a2⟩:=Q
 dsimp only at h2 h3 ⊢
 refine c9 Tryz.func36 28 fun E h0=>?_
 repeat'((first|refine S2 ?_|(refine T6 ?_ ?_<;>intro h<;>try exact V1 h)|intro el nJ nK|intro el nJ|exact T4|refine T5 ?_ ?_|intro ex|refine nc [0] [0] h1 rfl rfl rfl ⟨rfl,trivial⟩ ?_|refine nc [0] [0] h2 rfl rfl rfl ⟨rfl,trivial⟩ ?_)<;>try conv=>whnf)
 clear h1 h2
 refine B0 (ι:=Nat×List (List Int)×Nat) (fun x=>⟨[(0,.ref 0 0),(4,.ref 1 0),(5,.iptr (sL s)),(6,.ref 3 0),(7,.i x.1)],4,[(0,some (.box [.sl 1 (l.map P9),.i x.2.2])),(1,some (.box [.v (.slice none 0 0),.v (.slice none 0 0),.v (.slice none 0 0),.v (.slice none 0 0),.i 0])),(3,some (.box (R2 s x.2.1)))]⟩)
  (fun x=>x.1≤n∧x.2.1.length≤n-x.1∧(∀y∈x.2.1,y≠[])∧DL l s n ([],a2)=DL l s x.1 x.2) (fun x=>x.1) (n,[],a2) ⟨Nat.le_refl _,by simp,(fun y hy=>by cases hy),rfl⟩
  (C0 (bQ 3 (R2 s []) rfl ⟨.refl _,.refl _,.nil 1,.refl _,.refl _,trivial⟩) (A6 h0)) (fun x hI=>?_)
 obtain⟨k,rows,b⟩:=x
 obtain⟨hk,nM,hne,hI⟩:=hI
 dsimp only at hk nM hne hI ⊢
 cases k with
 |zero =>
  rw[hI]
  simp only[DL]
  repeat'((first|refine S2 ?_|(refine T6 ?_ ?_<;>intro h<;>try exact V1 h)|intro el nJ nK|intro el nJ|exact T4|refine T5 ?_ ?_|intro ex)<;>try conv=>whnf)
  all_goals first
   |exact M0 (rvs:=[.cell 4 lk]) (vs:=[_]) ⟨1,_,_,rfl,rfl,inferInstance,rfl,rfl,trivial⟩ rfl rfl (A7 h0 rfl ⟨rfl,trivial⟩ ⟨rfl,trivial⟩ rfl rfl rfl) rfl
   |(exfalso;omega)
 |succ k =>
  have nW:=bV l b s hd hl
  have rF:=UL rows (o7 l b s).1 (by omega) hne (XT hd l b)
  have pk:=Mi rows (o7 l b s).1
  have hpn:=XU (XT hd l b) hne
  have pS:DL l s (k+1) (rows,b)=DL l s k (Bo rows (o7 l b s).1,(o7 l b s).2):=rfl
  rw[pS]at hI
  generalize Bo rows (o7 l b s).1=vI at *
  generalize o7 l b s=R at *
  obtain⟨r,b2⟩:=R
  dsimp only at nW rF hI pS
  repeat'((first|(refine E7 6 ?_;refine R6 (id:=6) (σ':=⟨[(0,.ref 0 0),(4,.ref 1 0),(5,.iptr (sL s)),(6,.ref 3 0),(7,.i ((k+1:Nat):Int))],4,[(0,some (.box [.sl 1 (l.map P9),.i b])),(1,some (.box [.v (.slice none 0 0),.v (.slice none 0 0),.v (.slice none 0 0),.v (.slice none 0 0),.i 0])),(3,some (.box (R2 s rows)))]⟩) (A6 h0) ?_;refine F5 (id:=6) ⟨[(0,.ref 0 0),(4,.ref 1 0),(5,.iptr (sL s)),(6,.ref 3 0),(7,.i ((k+1:Nat):Int))],4,[(0,some (.box [.sl 1 (l.map P9),.i b2])),(1,some (.box [.v (.slice none 0 0),.v (.slice none 0 0),.v (.slice none 0 0),.v (.slice none 0 0),.i 0])),(3,some (.box (R2 s vI)))]⟩ ?_ ?_) |refine S2 ?_|(refine T6 ?_ ?_<;>intro h<;>try exact V1 h)|intro el nJ nK|intro el nJ|exact T4|refine T5 ?_ ?_|intro ex|refine nc [0] [0] nW rfl rfl rfl ⟨rfl,trivial⟩ ?_|refine A0 rF ?_)<;>try conv=>whnf)
  all_goals first
   |exact A7 h0 rfl ⟨rfl,rfl,rfl,rfl,rfl,trivial⟩ ⟨rfl,rfl,rfl,trivial⟩ rfl rfl rfl
   |exact⟨(k,vI,b2),⟨by dsimp only;omega,by dsimp only;omega,hpn,hI⟩,by dsimp only;omega,A7 h0 rfl ⟨rfl,rfl,rfl,rfl,congrArg (fun z:Int=>some (AV.i z)) (by omega),trivial⟩ ⟨rfl,rfl,rfl,trivial⟩ rfl rfl rfl⟩
   |(exfalso;omega)
def NC(rows:List (List Int))(id:Int):Int:=D9 (fun r=>decide (0<r.length) && decide (r.headD 0=id)) rows 0
theorem WQ(s:A4)(rows:List (List Int))(id:Int):A3 Tryz.prog 95 [.agg (R2 s rows),.i id] (.i (NC rows id)):=by
 unfold NC
 generalize hp:(fun r:List Int=>decide (0<r.length) && decide (r.headD 0=id))=p
 have ug:∀r,p r=(decide (0<r.length) && decide (r.headD 0=id)):=fun r=>by rw[←hp]
 refine B5 Tryz.func95 32 fun nL E h0=>?_
 have nM:rows.length≤9223372036854775807:=by
  have:=((nL (.agg (R2 s rows)) (by simp)).agg (.sl 1 (rows.map D4)) (by simp[R2])).sl
  simpa using this
 clear nL
 repeat'((first|refine S2 ?_|(refine T6 ?_ ?_<;>intro h<;>try exact V1 h)|intro el nJ nK|intro el nJ|exact T4|refine T5 ?_ ?_|intro ex)<;>try conv=>whnf)
 refine B0 (ι:=Nat) (fun k=>⟨[(1,.i id),(2,.ref 0 0),(5,.i k)],1,[(0,some (.box (R2 s rows)))]⟩)
  (fun k=>k≤rows.length∧D9 p rows 0=D9 p (rows.drop k) k) (fun k=>rows.length-k) 0 ⟨Nat.zero_le _,rfl⟩ (A6 h0) (fun k hI=>?_)
 obtain⟨hk,hI⟩:=hI
 by_cases nU:k<rows.length
 ·obtain⟨r,hr⟩:∃r,rows[k]?=some r:=⟨_,List.getElem?_eq_getElem nU⟩
  have pM:rows[((k:Nat):Int).toNat]?=some r:=hr
  rw[F7 hr,D9]at hI
  have wr:=ug r
  cases r with
  |nil =>
   rw[show p []=false from wr,if_neg (by decide)]at hI
   repeat'((first|(refine A2 (x:=([]:List Int)) pM (by omega) ?_)|(refine A9 ?_ ?_;kernel_rfl) |refine S2 ?_|(refine T6 ?_ ?_<;>intro h<;>try exact V1 h)|intro el nJ nK|intro el nJ|exact T4|refine T5 ?_ ?_|intro ex)<;>try conv=>whnf)
   all_goals first
    |(exfalso;omega)
    |(exfalso;simp at *;done)
    |exact⟨k+1,⟨by omega,hI⟩,by omega,A7 h0 rfl ⟨rfl,rfl,rfl,trivial⟩ ⟨rfl,trivial⟩ rfl rfl rfl⟩
  |cons a t =>
   have xZ:(a::t)[((0:Int)).toNat]?=some a:=rfl
   have sG:0<(a::t).length:=by simp
   rw[decide_eq_true sG,Bool.true_and]at wr
   generalize hrr:a::t=r at *
   have hhd:r.headD 0=a:=by rw[←hrr];rfl
   rw[hhd]at wr
   by_cases ha:a=id
   ·rw[wr,decide_eq_true ha,if_pos rfl]at hI
    repeat'((first|(refine A2 (x:=r) pM (by omega) ?_)|(refine A2 (x:=a) xZ (by omega) ?_)|(refine A9 ?_ ?_;kernel_rfl) |refine S2 ?_|(refine T6 ?_ ?_<;>intro h<;>try exact V1 h)|intro el nJ nK|intro el nJ|exact T4|refine T5 ?_ ?_|intro ex)<;>try conv=>whnf)
    all_goals first
     |(exfalso;omega)
     |exact A1 rfl (congrArg AV.i hI.symm)
   ·rw[wr,decide_eq_false ha,if_neg (by decide)]at hI
    repeat'((first|(refine A2 (x:=r) pM (by omega) ?_)|(refine A2 (x:=a) xZ (by omega) ?_)|(refine A9 ?_ ?_;kernel_rfl) |refine S2 ?_|(refine T6 ?_ ?_<;>intro h<;>try exact V1 h)|intro el nJ nK|intro el nJ|exact T4|refine T5 ?_ ?_|intro ex)<;>try conv=>whnf)
    all_goals first
     |(exfalso;omega)
     |exact⟨k+1,⟨by omega,hI⟩,by omega,A6 h0⟩
 ·rw[List.drop_eq_nil_of_le (by omega),D9]at hI
  repeat'((first|refine S2 ?_|(refine T6 ?_ ?_<;>intro h<;>try exact V1 h)|intro el nJ nK|intro el nJ|exact T4|refine T5 ?_ ?_|intro ex)<;>try conv=>whnf)
  all_goals first
   |(exfalso;omega)
   |exact A1 rfl (congrArg AV.i hI.symm)
def ME(s:A4)(rows:List (List Int))(k:Nat)(r:List Int):Int:=if ¬BD s r=0 then 1 else if 0<k∧r.headD 0≤(rows.getD (k-1) []).headD 0 then 1 else 0
def GM(s:A4)(rows:List (List Int)):Bool:=decide (C3 s=0∧rows.length≤200∧F3 (ME s rows) 0 rows=0)
theorem jn{s:A4}{rows:List (List Int)}{k:Nat}(h:F2 (ME s rows) rows k){i:Nat}{q:List Int}(hi:i<k)(hq:rows[i]?=some q):BD s q=0:=by
 have:=h.2.2 i q hi hq
 unfold ME at this
 by_cases hr:BD s q=0
 ·exact hr
 ·rw[if_pos hr]at this;cases this
theorem LK{s:A4}{r:List Int}(h:BD s r=0):∃z,r[0]?=some z:=by
 obtain⟨h1,h2⟩:=IX h
 have h3:=(D2 h1).2.2.2.2
 cases hc:s.cols with
 |nil=>rw[hc]at h3;simp at h3
 |cons a t =>
  rw[hc]at h2
  exact⟨_,List.getElem?_eq_getElem (by simp at h2;omega)⟩
theorem MF(s:A4)(rows:List (List Int)):A3 Tryz.prog 92 [.agg (R2 s rows)] (.b (GM s rows)):=by
 have h1:=Q6 s
 unfold GM
 by_cases e1:¬(C3 s=0∧rows.length≤200)
 ·rw[decide_eq_false (fun h=>e1 ⟨h.1,h.2.1⟩)]
  generalize C3 s=e at *
  refine B5 Tryz.func92 118 fun nL E h0=>?_
  have nM:rows.length≤9223372036854775807:=by
   have:=((nL (.agg (R2 s rows)) (by simp)).agg (.sl 1 (rows.map D4)) (by simp[R2])).sl
   simpa using this
  clear nL
  repeat'((first|refine A0 h1 ?_ |refine S2 ?_|(refine T6 ?_ ?_<;>intro h<;>try exact V1 h)|intro el nJ nK|intro el nJ|exact T4|refine T5 ?_ ?_|intro ex)<;>try conv=>whnf)
  all_goals first
   |(exfalso;omega)
   |exact A1 rfl rfl
 obtain⟨e1,e2⟩:=Decidable.of_not_not e1
 rw[e1]at h1
 have oE:=fun k=>@F2.step _ (ME s rows) rows k
 have ri:=fun k=>@F2.hit _ (ME s rows) rows k
 have rT:=fun k=>@F2.done _ (ME s rows) rows k
 have rl:=fun k=>@jn s rows k
 have hz:=F2.zero (ME s rows) rows
 have hex:∀k r,ME s rows k r=if ¬BD s r=0 then 1 else if 0<k∧r.headD 0≤(rows.getD (k-1) []).headD 0 then 1 else 0:=fun _ _=>rfl
 have h2:=fun r=>RI s r
 generalize ME s rows=FE at *
 have nf:F3 FE 0 rows=1→decide (C3 s=0∧rows.length≤200∧F3 FE 0 rows=0)=false:=fun h=>decide_eq_false (fun hh=>by rw[h]at hh;exact absurd hh.2.2 (by decide))
 have pu:F3 FE 0 rows=0→decide (C3 s=0∧rows.length≤200∧F3 FE 0 rows=0)=true:=fun h=>decide_eq_true ⟨e1,e2,h⟩
 generalize decide (C3 s=0∧rows.length≤200∧F3 FE 0 rows=0)=D at *
 refine B5 Tryz.func92 118 fun nL E h0=>?_
 clear nL
 repeat'((first|refine A0 h1 ?_ |refine S2 ?_|(refine T6 ?_ ?_<;>intro h<;>try exact V1 h)|intro el nJ nK|intro el nJ|exact T4|refine T5 ?_ ?_|intro ex)<;>try conv=>whnf)
 all_goals first
  |(exfalso;omega)
  |skip
 refine B0 (ι:=Nat) (fun k=>⟨[(1,.ref 0 0),(3,.i k)],1,[(0,some (.box (R2 s rows)))]⟩)
  (fun k=>F2 FE rows k) (fun k=>rows.length-k) 0 hz (A6 h0) (fun k hK=>?_)
 by_cases nU:k<rows.length
 ·obtain⟨r,hr⟩:∃r,rows[k]?=some r:=⟨_,List.getElem?_eq_getElem nU⟩
  have pM:rows[((k:Nat):Int).toNat]?=some r:=hr
  have hx:=hex k r
  have hf:=h2 r
  by_cases rO:¬BD s r=0
  ·rw[if_pos rO]at hx
   have hh:=ri k hK hr (by rw[hx];decide)
   rw[hx]at hh
   have hD:=nf hh.symm
   generalize BD s r=e at *
   repeat'((first|(refine A2 (x:=r) pM (by omega) ?_)|refine A0 hf ?_|(refine A9 ?_ ?_;kernel_rfl) |refine S2 ?_|(refine T6 ?_ ?_<;>intro h<;>try exact V1 h)|intro el nJ nK|intro el nJ|exact T4|refine T5 ?_ ?_|intro ex)<;>try conv=>whnf)
   all_goals first
    |(exfalso;omega)
    |exact A1 rfl (congrArg AV.b hD.symm)
  have rO:=Decidable.of_not_not rO
  obtain⟨r0,om⟩:=LK rO
  rw[rO,if_neg (by decide),O6 om]at hx
  rw[rO]at hf
  by_cases rz:k=0
  ·subst rz
   rw[if_neg (by omega)]at hx
   have nS:=oE 0 hK hr hx
   repeat'((first|(refine A2 (x:=r) pM (by omega) ?_)|(refine A2 (x:=r0) om (by omega) ?_)|refine A0 hf ?_|(refine A9 ?_ ?_;kernel_rfl) |refine S2 ?_|(refine T6 ?_ ?_<;>intro h<;>try exact V1 h)|intro el nJ nK|intro el nJ|exact T4|refine T5 ?_ ?_|intro ex)<;>try conv=>whnf)
   all_goals first
    |(exfalso;omega)
    |exact⟨0+1,nS,by omega,A6 h0⟩
  ·obtain⟨q,hq⟩:∃q,rows[k-1]?=some q:=⟨_,List.getElem?_eq_getElem (by omega)⟩
   obtain⟨q0,tK⟩:=LK (rl k hK (i:=k-1) (by omega) hq)
   rw[D7 hq,O6 tK]at hx
   have oy:rows[((k:Int)-1).toNat]?=some q:=by rw[show ((k:Int)-1).toNat=k-1 by omega];exact hq
   by_cases oW:r0≤q0
   ·rw[if_pos ⟨by omega,oW⟩]at hx
    have hh:=ri k hK hr (by rw[hx];decide)
    rw[hx]at hh
    have hD:=nf hh.symm
    repeat'((first|(refine A2 (x:=q) oy (by omega) ?_)|(refine A2 (x:=q0) tK (by omega) ?_)|(refine A2 (x:=r) pM (by omega) ?_)|(refine A2 (x:=r0) om (by omega) ?_)|refine A0 hf ?_|(refine A9 ?_ ?_;kernel_rfl) |refine S2 ?_|(refine T6 ?_ ?_<;>intro h<;>try exact V1 h)|intro el nJ nK|intro el nJ|exact T4|refine T5 ?_ ?_|intro ex)<;>try conv=>whnf)
    all_goals first
     |(exfalso;omega)
     |exact A1 rfl (congrArg AV.b hD.symm)
   ·rw[if_neg (fun h=>oW h.2)]at hx
    have nS:=oE k hK hr hx
    repeat'((first|(refine A2 (x:=q) oy (by omega) ?_)|(refine A2 (x:=q0) tK (by omega) ?_)|(refine A2 (x:=r) pM (by omega) ?_)|(refine A2 (x:=r0) om (by omega) ?_)|refine A0 hf ?_|(refine A9 ?_ ?_;kernel_rfl) |refine S2 ?_|(refine T6 ?_ ?_<;>intro h<;>try exact V1 h)|intro el nJ nK|intro el nJ|exact T4|refine T5 ?_ ?_|intro ex)<;>try conv=>whnf)
    all_goals first
     |(exfalso;omega)
     |exact⟨k+1,nS,by omega,A6 h0⟩
 ·have hD:=pu (rT k hK (by omega))
  rw[hD]
  repeat'((first|refine S2 ?_|(refine T6 ?_ ?_<;>intro h<;>try exact V1 h)|intro el nJ nK|intro el nJ|exact T4|refine T5 ?_ ?_|intro ex)<;>try conv=>whnf)
  all_goals first
   |(exfalso;omega)
   |skip
  refine B0 (ι:=Nat) (fun k=>⟨[(1,.ref 0 0),(4,.i k)],1,[(0,some (.box (R2 s rows)))]⟩)
   (fun k=>k=0) (fun k=>0) 0 rfl (A6 h0) (fun k hk=>?_)
  subst hk
  repeat'((first|refine S2 ?_|(refine T6 ?_ ?_<;>intro h<;>try exact V1 h)|intro el nJ nK|intro el nJ|exact T4|refine T5 ?_ ?_|intro ex)<;>try conv=>whnf)
  all_goals first
   |(exfalso;omega)
   |exact A1 rfl rfl
end Go.Proofs.YtiphlhoclaogjaaGreatDoor

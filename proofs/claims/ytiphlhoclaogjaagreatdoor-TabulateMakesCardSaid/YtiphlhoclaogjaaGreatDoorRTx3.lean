/- Chapter 12: keys, by the reference. -/
import Derived.Test.YtiphlhoclaogjaaGreatDoorRTx0
set_option linter.unusedVariables false
set_option linter.unnecessarySimpa false
set_option linter.unusedSimpArgs false
set_option maxHeartbeats 64000000
namespace Go.Proofs.YtiphlhoclaogjaaGreatDoor
open Go Go.Av
attribute [local irreducible] C9 B3 C7 D1 DQ D0 C6 St.le A3 B7
set_option maxRecDepth 100000
theorem mH(z:Int):0≤uW z∧uW z≤18446744073709551615:=by
 have:uW z=z % 18446744073709551616:=by
  unfold uW IntKind.wrap
  simp[IntKind.signed,IntKind.bits]
 rw[this]
 omega
theorem ic(g:Int):UQ g 54=g / 18014398509481984:=by
 show g.fdiv (2 ^ 54)=_
 rw[Int.fdiv_eq_ediv_of_nonneg _ (by decide)]
 rfl
def MF(g:Int):Int:=uW (ke g (UQ g 31)*13787848793156543929)
def MG(secret round half:Int):Int :=
 if secret<0∨1152921504606846976≤secret∨round<0∨7<round∨half<0∨1023<half then 0
 else IntKind.i64.wrap (UQ (GV MF 3 (uW (uW (uW secret+uW (uW round*11400714819323198485))+uW (uW half*14029467366897019727)))) 54)
theorem ig(secret round half:Int):0≤MG secret round half∧MG secret round half≤1023:=by
 unfold MG
 split
 ·exact⟨by decide,by decide⟩
 ·generalize uW (uW (uW secret+uW (uW round*11400714819323198485))+uW (uW half*14029467366897019727))=g
  have hb:0≤GV MF 3 g∧GV MF 3 g≤18446744073709551615:=mH _
  generalize GV MF 3 g=G at *
  rw[ic,Q0 (by omega)]
  omega
theorem VW(secret round half:Int):A3 Tryz.prog 149 [.i secret,.i round,.i half] (.i (MG secret round half)):=by
 unfold MG
 by_cases hc:secret<0∨1152921504606846976≤secret∨round<0∨7<round∨half<0∨1023<half
 ·rw[if_pos hc]
  refine B5 Tryz.func149 54 fun mK E h0=>?_
  clear mK
  repeat'((first|refine S2 ?_|(refine T6 ?_ ?_<;>intro h<;>try exact V1 h)|intro el mI mJ|intro el mI|exact T4|refine T5 ?_ ?_|intro ex)<;>try conv=>whnf)
  all_goals first
   |(exfalso;omega)
   |exact A1 rfl rfl
 rw[if_neg hc]
 generalize hG:GV MF 3 (uW (uW (uW secret+uW (uW round*11400714819323198485))+uW (uW half*14029467366897019727)))=G
 refine B5 Tryz.func149 54 fun mK E h0=>?_
 clear mK
 repeat'((first|refine S2 ?_|(refine T6 ?_ ?_<;>intro h<;>try exact V1 h)|intro el mI mJ|intro el mI|exact T4|refine T5 ?_ ?_|intro ex)<;>try conv=>whnf)
 all_goals first
  |(exfalso;omega)
  |skip
 refine A9 (ι:=Nat×Int) (fun x=>⟨[(7,.v (.int .u64 x.2)),(8,.i x.1)],0,[]⟩)
  (fun x=>x.1≤3∧GV MF (3-x.1) x.2=G) (fun x=>3-x.1) (0,uW (uW (uW secret+uW (uW round*11400714819323198485))+uW (uW half*14029467366897019727))) ⟨Nat.zero_le _,hG⟩ (A6 h0) (fun x hI=>?_)
 obtain⟨k,g⟩:=x
 obtain⟨i1,i2⟩:=hI
 dsimp only at i1 i2 ⊢
 by_cases hk:k<3
 ·rw[show 3-k=(3-(k+1))+1 by omega,GV]at i2
  repeat'((first|refine S2 ?_|(refine T6 ?_ ?_<;>intro h<;>try exact V1 h)|intro el mI mJ|intro el mI|exact T4|refine T5 ?_ ?_|intro ex)<;>try conv=>whnf)
  all_goals first
   |(exfalso;omega)
   |exact⟨(k+1,MF g),⟨by dsimp only;omega,i2⟩,by dsimp only;omega,A6 h0⟩
 ·rw[show 3-k=0 by omega,GV]at i2
  subst i2
  repeat'((first|refine S2 ?_|(refine T6 ?_ ?_<;>intro h<;>try exact V1 h)|intro el mI mJ|intro el mI|exact T4|refine T5 ?_ ?_|intro ex)<;>try conv=>whnf)
  all_goals first
   |(exfalso;omega)
   |exact A1 rfl rfl
def UT(secret n:Int):Bool:=decide (0≤secret∧secret<1152921504606846976∧0≤n∧n<1048576)
theorem RP(secret n:Int):A3 Tryz.prog 148 [.i secret,.i n] (.b (UT secret n)):=by
 unfold UT
 by_cases hc:0≤secret∧secret<1152921504606846976∧0≤n∧n<1048576
 ·rw[decide_eq_true hc]
  refine B5 Tryz.func148 19 fun mK E h0=>?_
  clear mK
  repeat'((first|refine S2 ?_|(refine T6 ?_ ?_<;>intro h<;>try exact V1 h)|intro el mI mJ|intro el mI|exact T4|refine T5 ?_ ?_|intro ex)<;>try conv=>whnf)
  all_goals first
   |(exfalso;omega)
   |exact A1 rfl rfl
   |exact A1 rfl (congrArg AV.b (decide_eq_true (by omega)))
 ·rw[decide_eq_false hc]
  refine B5 Tryz.func148 19 fun mK E h0=>?_
  clear mK
  repeat'((first|refine S2 ?_|(refine T6 ?_ ?_<;>intro h<;>try exact V1 h)|intro el mI mJ|intro el mI|exact T4|refine T5 ?_ ?_|intro ex)<;>try conv=>whnf)
  all_goals first
   |(exfalso;omega)
   |exact A1 rfl rfl
   |exact A1 rfl (congrArg AV.b (decide_eq_false (by omega)))
abbrev Yq(a b:Int):Int:=IntKind.i64.wrap ((BitVec.ofInt IntKind.i64.bits a ^^^ BitVec.ofInt IntKind.i64.bits b).toNat:Int)
theorem LH{a:Int}(h0:0≤a)(h1:a≤1023):(BitVec.ofInt 64 a).toNat<2 ^ 10:=by
 rw[BitVec.toNat_ofInt]
 omega
theorem ii{a b:Int}(ha:0≤a∧a≤1023)(hb:0≤b∧b≤1023):0≤Yq a b∧Yq a b≤1023:=by
 have h:(BitVec.ofInt 64 a ^^^ BitVec.ofInt 64 b).toNat<2 ^ 10:=by
  rw[BitVec.toNat_xor]
  exact Nat.xor_lt_two_pow (LH ha.1 ha.2) (LH hb.1 hb.2)
 show 0≤IntKind.i64.wrap ((BitVec.ofInt 64 a ^^^ BitVec.ofInt 64 b).toNat:Int)∧IntKind.i64.wrap ((BitVec.ofInt 64 a ^^^ BitVec.ofInt 64 b).toNat:Int)≤1023
 generalize (BitVec.ofInt 64 a ^^^ BitVec.ofInt 64 b).toNat=n at *
 rw[Q0 (by omega)]
 omega
def Ee(secret id:Int):Nat→Int×Int
 |0=>(id.tdiv 1024,id.tmod 1024)
 |i+1=>((Ee secret id i).2,Yq (Ee secret id i).1 (MG secret i (Ee secret id i).2))
def UU(secret id:Int):Int:=if UT secret id=true then (Ee secret id 8).1*1024+(Ee secret id 8).2 else -1
theorem bQ{secret id:Int}(h:0≤id∧id<1048576):∀i,(0≤(Ee secret id i).1∧(Ee secret id i).1≤1023)∧(0≤(Ee secret id i).2∧(Ee secret id i).2≤1023)
 |0=>by
  unfold Ee
  dsimp only
  rw[Int.tdiv_eq_ediv_of_nonneg h.1,Int.tmod_eq_emod_of_nonneg h.1]
  omega
 |i+1=>by
  have ih:=bQ (secret:=secret) h i
  unfold Ee
  exact⟨ih.2,ii ih.1 (ig _ _ _)⟩
theorem bR(secret id:Int):A3 Tryz.prog 96 [.i secret,.i id] (.i (UU secret id)):=by
 have h1:=RP secret id
 unfold UU
 cases hb:UT secret id with
 |false =>
  rw[if_neg (by decide)]
  rw[hb]at h1
  refine B5 Tryz.func96 31 fun mK E h0=>?_
  clear mK
  repeat'((first|refine A0 h1 ?_ |refine S2 ?_|(refine T6 ?_ ?_<;>intro h<;>try exact V1 h)|intro el mI mJ|intro el mI|exact T4|refine T5 ?_ ?_|intro ex)<;>try conv=>whnf)
  all_goals first
   |(exfalso;omega)
   |exact A1 rfl rfl
 |true =>
  rw[if_pos rfl]
  rw[hb]at h1
  unfold UT at hb
  have hb:=of_decide_eq_true hb
  have rr:=bQ (secret:=secret) (id:=id) ⟨hb.2.2.1,hb.2.2.2⟩
  have rz:0≤id.tdiv 1024∧id.tdiv 1024≤1023:=by rw[Int.tdiv_eq_ediv_of_nonneg hb.2.2.1];omega
  have h2:=fun (i half:Int)=>VW secret i half
  have hs:∀i:Nat,Ee secret id (i+1)=((Ee secret id i).2,Yq (Ee secret id i).1 (MG secret i (Ee secret id i).2)):=fun _=>rfl
  have hz:Ee secret id 0=(id.tdiv 1024,id.tmod 1024):=rfl
  generalize Ee secret id=K at *
  refine B5 Tryz.func96 31 fun mK E h0=>?_
  clear mK
  repeat'((first|refine A0 h1 ?_|(refine B0 ?_ ?_;kernel_rfl) |refine S2 ?_|(refine T6 ?_ ?_<;>intro h<;>try exact V1 h)|intro el mI mJ|intro el mI|exact T4|refine T5 ?_ ?_|intro ex)<;>try conv=>whnf)
  all_goals first
   |(exfalso;omega)
   |skip
  refine A9 (ι:=Nat) (fun i=>⟨[(0,.i secret),(5,.i (K i).1),(6,.i (K i).2),(7,.i i)],0,[]⟩) (fun i=>i≤8) (fun i=>8-i) 0 (Nat.zero_le _)
   (A7 h0 rfl ⟨rfl,congrArg (fun z:Int×Int=>some (AV.i z.1)) hz.symm,congrArg (fun z:Int×Int=>some (AV.i z.2)) hz.symm,rfl,trivial⟩ trivial rfl rfl rfl) (fun i hi=>?_)
  have hbi:=rr i
  have hsi:=hs i
  have h3:=h2 i (K i).2
  by_cases hi8:i<8
  ·repeat'((first|refine A0 h3 ?_|(refine B0 ?_ ?_;kernel_rfl) |refine S2 ?_|(refine T6 ?_ ?_<;>intro h<;>try exact V1 h)|intro el mI mJ|intro el mI|exact T4|refine T5 ?_ ?_|intro ex)<;>try conv=>whnf)
   all_goals first
    |(exfalso;omega)
    |exact⟨i+1,by omega,by omega,A7 h0 rfl ⟨rfl,congrArg (fun z:Int×Int=>some (AV.i z.1)) hsi.symm,congrArg (fun z:Int×Int=>some (AV.i z.2)) hsi.symm,rfl,trivial⟩ trivial rfl rfl rfl⟩
  ·obtain rfl:i=8:=by omega
   repeat'((first|refine S2 ?_|(refine T6 ?_ ?_<;>intro h<;>try exact V1 h)|intro el mI mJ|intro el mI|exact T4|refine T5 ?_ ?_|intro ex)<;>try conv=>whnf)
   all_goals first
    |(exfalso;omega)
    |exact A1 rfl rfl
def Cw(l:List UInt8)(s:A4):Nat→List (List Int)×Nat→List (List Int)×Nat
 |0,x=>x
 |n+1,x=>Cw l s n (At x.1 (k5 l x.2 s).1,(k5 l x.2 s).2)
def Bz(l:List UInt8)(a:Nat)(most:Int):(A4×List (List Int))×Nat :=
 let r:=Cw l (Bt l a).1 (C0 l (Bt l a).2 (most+1)).1 ([],(C0 l (Bt l a).2 (most+1)).2)
 (((Bt l a).1,r.1),r.2)
theorem Wd{s:A4}(hd:D9 s)(l:List UInt8)(a:Nat):(k5 l a s).1≠[]:=by
 have h:=(gZ hd l a).1
 have h2:=hd.lens
 intro e
 rw[e]at h
 simp at h;omega
theorem ij{row:List Int}(hr:row≠[]){q:List (List Int)×Bool}{x:List Int}(hx:x≠[])(hq:∀y∈q.1,y≠[]):∀y∈(s6 row q x).1,y≠[]:=by
 obtain⟨out,done⟩:=q
 simp only[s6]
 split
 ·exact hq
 ·split
  ·intro y hy
   simp only[List.mem_append,List.mem_singleton]at hy
   rcases hy with (hy|rfl)|rfl
   ·exact hq y hy
   ·exact hr
   ·exact hx
  ·intro y hy
   simp only[List.mem_append,List.mem_singleton]at hy
   rcases hy with hy|rfl
   ·exact hq y hy
   ·exact hx
theorem We{l:List (List Int)}{row:List Int}(hr:row≠[])(hl:∀y∈l,y≠[]):∀y∈At l row,y≠[]:=by
 have key:∀(l:List (List Int)) (q:List (List Int)×Bool),(∀y∈l,y≠[])→(∀y∈q.1,y≠[])→∀y∈(l.foldl (s6 row) q).1,y≠[]:=by
  intro l
  induction l with
  |nil=>intro q _ hq;exact hq
  |cons x r ih=>intro q hl hq;exact ih _ (fun y hy=>hl y (by simp[hy])) (ij hr (hl x (by simp)) hq)
 have h:=key l ([],false) hl (fun y hy=>by cases hy)
 unfold At
 dsimp only at h ⊢
 split
 ·exact h
 ·intro y hy
  simp only[List.mem_append,List.mem_singleton]at hy
  rcases hy with hy|rfl
  ·exact h y hy
  ·exact hr
abbrev R7(s:A4)(rows:List (List Int)):List AV:=[.sl 2 (s.lists.map z7),.sl 7 (s.cols.map U6),.sl 1 (rows.map D2),.v (.slice none 0 0),.i 0]
abbrev lR:Nat:=39
theorem eQ(l:List UInt8)(a:Nat)(most:Int)(hl:l.length≤400)(hm:0≤most)(qt:most≤1000):B7 Tryz.prog 36 1 (U4 l a) [.ref 0 0,.i most] 1 (U4 l (Bz l a most).2) (.agg (R7 (Bz l a most).1.1 (Bz l a most).1.2)):=by
 have h1:=aT l a hl
 have hd:=NU l a
 unfold Bz
 dsimp only
 generalize Bt l a=S at *
 obtain⟨s,a1⟩:=S
 dsimp only at h1 hd ⊢
 have h2:=I5 l a1 (most+1) hl
 have h3:=I2 l a1 (n:=most+1) (by omega)
 generalize C0 l a1 (most+1)=Q at *
 obtain⟨n,a2⟩:=Q
 dsimp only at h2 h3 ⊢
 refine Y6 Tryz.func36 28 fun E h0=>?_
 repeat'((first|refine S2 ?_|(refine T6 ?_ ?_<;>intro h<;>try exact V1 h)|intro el mI mJ|intro el mI|exact T4|refine T5 ?_ ?_|intro ex|refine nc [0] [0] h1 rfl rfl rfl ⟨rfl,trivial⟩ ?_|refine nc [0] [0] h2 rfl rfl rfl ⟨rfl,trivial⟩ ?_)<;>try conv=>whnf)
 clear h1 h2
 refine A9 (ι:=Nat×List (List Int)×Nat) (fun x=>⟨[(0,.ref 0 0),(4,.ref 1 0),(5,.iptr (sL s)),(6,.ref 3 0),(7,.i x.1)],4,[(0,some (.box [.sl 1 (l.map O3),.i x.2.2])),(1,some (.box [.v (.slice none 0 0),.v (.slice none 0 0),.v (.slice none 0 0),.v (.slice none 0 0),.i 0])),(3,some (.box (R7 s x.2.1)))]⟩)
  (fun x=>x.1≤n∧x.2.1.length≤n-x.1∧(∀y∈x.2.1,y≠[])∧Cw l s n ([],a2)=Cw l s x.1 x.2) (fun x=>x.1) (n,[],a2) ⟨Nat.le_refl _,by simp,(fun y hy=>by cases hy),rfl⟩
  (B9 (aP 3 (R7 s []) rfl ⟨.refl _,.refl _,.nil 1,.refl _,.refl _,trivial⟩) (A6 h0)) (fun x hI=>?_)
 obtain⟨k,rows,b⟩:=x
 obtain⟨hk,mL,hne,hI⟩:=hI
 dsimp only at hk mL hne hI ⊢
 cases k with
 |zero =>
  rw[hI]
  simp only[Cw]
  repeat'((first|refine S2 ?_|(refine T6 ?_ ?_<;>intro h<;>try exact V1 h)|intro el mI mJ|intro el mI|exact T4|refine T5 ?_ ?_|intro ex)<;>try conv=>whnf)
  all_goals first
   |exact L9 (rvs:=[.cell 4 lR]) (vs:=[_]) ⟨1,_,_,rfl,rfl,inferInstance,rfl,rfl,trivial⟩ rfl rfl (A7 h0 rfl ⟨rfl,trivial⟩ ⟨rfl,trivial⟩ rfl rfl rfl) rfl
   |(exfalso;omega)
 |succ k =>
  have mU:=aU l b s hd hl
  have qF:=TP rows (k5 l b s).1 (by omega) hne (Wd hd l b)
  have ob:=Lk rows (k5 l b s).1
  have hpn:=We (Wd hd l b) hne
  have oM:Cw l s (k+1) (rows,b)=Cw l s k (At rows (k5 l b s).1,(k5 l b s).2):=rfl
  rw[oM]at hI
  generalize At rows (k5 l b s).1=vX at *
  generalize k5 l b s=R at *
  obtain⟨r,b2⟩:=R
  dsimp only at mU qF hI oM
  repeat'((first|(refine E6 6 ?_;refine R2 (id:=6) (σ':=⟨[(0,.ref 0 0),(4,.ref 1 0),(5,.iptr (sL s)),(6,.ref 3 0),(7,.i ((k+1:Nat):Int))],4,[(0,some (.box [.sl 1 (l.map O3),.i b])),(1,some (.box [.v (.slice none 0 0),.v (.slice none 0 0),.v (.slice none 0 0),.v (.slice none 0 0),.i 0])),(3,some (.box (R7 s rows)))]⟩) (A6 h0) ?_;refine F3 (id:=6) ⟨[(0,.ref 0 0),(4,.ref 1 0),(5,.iptr (sL s)),(6,.ref 3 0),(7,.i ((k+1:Nat):Int))],4,[(0,some (.box [.sl 1 (l.map O3),.i b2])),(1,some (.box [.v (.slice none 0 0),.v (.slice none 0 0),.v (.slice none 0 0),.v (.slice none 0 0),.i 0])),(3,some (.box (R7 s vX)))]⟩ ?_ ?_) |refine S2 ?_|(refine T6 ?_ ?_<;>intro h<;>try exact V1 h)|intro el mI mJ|intro el mI|exact T4|refine T5 ?_ ?_|intro ex|refine nc [0] [0] mU rfl rfl rfl ⟨rfl,trivial⟩ ?_|refine A0 qF ?_)<;>try conv=>whnf)
  all_goals first
   |exact A7 h0 rfl ⟨rfl,rfl,rfl,rfl,rfl,trivial⟩ ⟨rfl,rfl,rfl,trivial⟩ rfl rfl rfl
   |exact⟨(k,vX,b2),⟨by dsimp only;omega,by dsimp only;omega,hpn,hI⟩,by dsimp only;omega,A7 h0 rfl ⟨rfl,rfl,rfl,rfl,congrArg (fun z:Int=>some (AV.i z)) (by omega),trivial⟩ ⟨rfl,rfl,rfl,trivial⟩ rfl rfl rfl⟩
   |(exfalso;omega)
def MH(rows:List (List Int))(id:Int):Int:=E8 (fun r=>decide (0<r.length) && decide (r.headD 0=id)) rows 0
theorem VY(s:A4)(rows:List (List Int))(id:Int):A3 Tryz.prog 95 [.agg (R7 s rows),.i id] (.i (MH rows id)):=by
 unfold MH
 generalize hp:(fun r:List Int=>decide (0<r.length) && decide (r.headD 0=id))=p
 have vB:∀r,p r=(decide (0<r.length) && decide (r.headD 0=id)):=fun r=>by rw[←hp]
 refine B5 Tryz.func95 32 fun mK E h0=>?_
 have mL:rows.length≤9223372036854775807:=by
  have:=((mK (.agg (R7 s rows)) (by simp)).agg (.sl 1 (rows.map D2)) (by simp[R7])).sl
  simpa using this
 clear mK
 repeat'((first|refine S2 ?_|(refine T6 ?_ ?_<;>intro h<;>try exact V1 h)|intro el mI mJ|intro el mI|exact T4|refine T5 ?_ ?_|intro ex)<;>try conv=>whnf)
 refine A9 (ι:=Nat) (fun k=>⟨[(1,.i id),(2,.ref 0 0),(5,.i k)],1,[(0,some (.box (R7 s rows)))]⟩)
  (fun k=>k≤rows.length∧E8 p rows 0=E8 p (rows.drop k) k) (fun k=>rows.length-k) 0 ⟨Nat.zero_le _,rfl⟩ (A6 h0) (fun k hI=>?_)
 obtain⟨hk,hI⟩:=hI
 by_cases mT:k<rows.length
 ·obtain⟨r,hr⟩:∃r,rows[k]?=some r:=⟨_,List.getElem?_eq_getElem mT⟩
  have oI:rows[((k:Nat):Int).toNat]?=some r:=hr
  rw[G1 hr,E8]at hI
  have wI:=vB r
  cases r with
  |nil =>
   rw[show p []=false from wI,if_neg (by decide)]at hI
   repeat'((first|(refine A2 (x:=([]:List Int)) oI (by omega) ?_)|(refine B0 ?_ ?_;kernel_rfl) |refine S2 ?_|(refine T6 ?_ ?_<;>intro h<;>try exact V1 h)|intro el mI mJ|intro el mI|exact T4|refine T5 ?_ ?_|intro ex)<;>try conv=>whnf)
   all_goals first
    |(exfalso;omega)
    |(exfalso;simp at *;done)
    |exact⟨k+1,⟨by omega,hI⟩,by omega,A7 h0 rfl ⟨rfl,rfl,rfl,trivial⟩ ⟨rfl,trivial⟩ rfl rfl rfl⟩
  |cons a t =>
   have xJ:(a::t)[((0:Int)).toNat]?=some a:=rfl
   have qV:0<(a::t).length:=by simp
   rw[decide_eq_true qV,Bool.true_and]at wI
   generalize hrr:a::t=r at *
   have hhd:r.headD 0=a:=by rw[←hrr];rfl
   rw[hhd]at wI
   by_cases ha:a=id
   ·rw[wI,decide_eq_true ha,if_pos rfl]at hI
    repeat'((first|(refine A2 (x:=r) oI (by omega) ?_)|(refine A2 (x:=a) xJ (by omega) ?_)|(refine B0 ?_ ?_;kernel_rfl) |refine S2 ?_|(refine T6 ?_ ?_<;>intro h<;>try exact V1 h)|intro el mI mJ|intro el mI|exact T4|refine T5 ?_ ?_|intro ex)<;>try conv=>whnf)
    all_goals first
     |(exfalso;omega)
     |exact A1 rfl (congrArg AV.i hI.symm)
   ·rw[wI,decide_eq_false ha,if_neg (by decide)]at hI
    repeat'((first|(refine A2 (x:=r) oI (by omega) ?_)|(refine A2 (x:=a) xJ (by omega) ?_)|(refine B0 ?_ ?_;kernel_rfl) |refine S2 ?_|(refine T6 ?_ ?_<;>intro h<;>try exact V1 h)|intro el mI mJ|intro el mI|exact T4|refine T5 ?_ ?_|intro ex)<;>try conv=>whnf)
    all_goals first
     |(exfalso;omega)
     |exact⟨k+1,⟨by omega,hI⟩,by omega,A6 h0⟩
 ·rw[List.drop_eq_nil_of_le (by omega),E8]at hI
  repeat'((first|refine S2 ?_|(refine T6 ?_ ?_<;>intro h<;>try exact V1 h)|intro el mI mJ|intro el mI|exact T4|refine T5 ?_ ?_|intro ex)<;>try conv=>whnf)
  all_goals first
   |(exfalso;omega)
   |exact A1 rfl (congrArg AV.i hI.symm)
def MA(s:A4)(rows:List (List Int))(k:Nat)(r:List Int):Int:=if ¬AH s r=0 then 1 else if 0<k∧r.headD 0≤(rows.getD (k-1) []).headD 0 then 1 else 0
def FU(s:A4)(rows:List (List Int)):Bool:=decide (C3 s=0∧rows.length≤200∧F4 (MA s rows) 0 rows=0)
theorem ik{s:A4}{rows:List (List Int)}{k:Nat}(h:F2 (MA s rows) rows k){i:Nat}{q:List Int}(hi:i<k)(hq:rows[i]?=some q):AH s q=0:=by
 have:=h.2.2 i q hi hq
 unfold MA at this
 by_cases hr:AH s q=0
 ·exact hr
 ·rw[if_pos hr]at this;cases this
theorem KP{s:A4}{r:List Int}(h:AH s r=0):∃z,r[0]?=some z:=by
 obtain⟨h1,h2⟩:=HY h
 have h3:=(D3 h1).2.2.2.2
 cases hc:s.cols with
 |nil=>rw[hc]at h3;simp at h3
 |cons a t =>
  rw[hc]at h2
  exact⟨_,List.getElem?_eq_getElem (by simp at h2;omega)⟩
theorem MC(s:A4)(rows:List (List Int)):A3 Tryz.prog 92 [.agg (R7 s rows)] (.b (FU s rows)):=by
 have h1:=Q4 s
 unfold FU
 by_cases e1:¬(C3 s=0∧rows.length≤200)
 ·rw[decide_eq_false (fun h=>e1 ⟨h.1,h.2.1⟩)]
  generalize C3 s=e at *
  refine B5 Tryz.func92 118 fun mK E h0=>?_
  have mL:rows.length≤9223372036854775807:=by
   have:=((mK (.agg (R7 s rows)) (by simp)).agg (.sl 1 (rows.map D2)) (by simp[R7])).sl
   simpa using this
  clear mK
  repeat'((first|refine A0 h1 ?_ |refine S2 ?_|(refine T6 ?_ ?_<;>intro h<;>try exact V1 h)|intro el mI mJ|intro el mI|exact T4|refine T5 ?_ ?_|intro ex)<;>try conv=>whnf)
  all_goals first
   |(exfalso;omega)
   |exact A1 rfl rfl
 obtain⟨e1,e2⟩:=Decidable.of_not_not e1
 rw[e1]at h1
 have nC:=fun k=>@F2.step _ (MA s rows) rows k
 have qT:=fun k=>@F2.hit _ (MA s rows) rows k
 have qk:=fun k=>@F2.done _ (MA s rows) rows k
 have qf:=fun k=>@ik s rows k
 have hz:=F2.zero (MA s rows) rows
 have hex:∀k r,MA s rows k r=if ¬AH s r=0 then 1 else if 0<k∧r.headD 0≤(rows.getD (k-1) []).headD 0 then 1 else 0:=fun _ _=>rfl
 have h2:=fun r=>QK s r
 generalize MA s rows=FE at *
 have mc:F4 FE 0 rows=1→decide (C3 s=0∧rows.length≤200∧F4 FE 0 rows=0)=false:=fun h=>decide_eq_false (fun hh=>by rw[h]at hh;exact absurd hh.2.2 (by decide))
 have ox:F4 FE 0 rows=0→decide (C3 s=0∧rows.length≤200∧F4 FE 0 rows=0)=true:=fun h=>decide_eq_true ⟨e1,e2,h⟩
 generalize decide (C3 s=0∧rows.length≤200∧F4 FE 0 rows=0)=D at *
 refine B5 Tryz.func92 118 fun mK E h0=>?_
 clear mK
 repeat'((first|refine A0 h1 ?_ |refine S2 ?_|(refine T6 ?_ ?_<;>intro h<;>try exact V1 h)|intro el mI mJ|intro el mI|exact T4|refine T5 ?_ ?_|intro ex)<;>try conv=>whnf)
 all_goals first
  |(exfalso;omega)
  |skip
 refine A9 (ι:=Nat) (fun k=>⟨[(1,.ref 0 0),(3,.i k)],1,[(0,some (.box (R7 s rows)))]⟩)
  (fun k=>F2 FE rows k) (fun k=>rows.length-k) 0 hz (A6 h0) (fun k hK=>?_)
 by_cases mT:k<rows.length
 ·obtain⟨r,hr⟩:∃r,rows[k]?=some r:=⟨_,List.getElem?_eq_getElem mT⟩
  have oI:rows[((k:Nat):Int).toNat]?=some r:=hr
  have hx:=hex k r
  have hf:=h2 r
  by_cases qN:¬AH s r=0
  ·rw[if_pos qN]at hx
   have hh:=qT k hK hr (by rw[hx];decide)
   rw[hx]at hh
   have hD:=mc hh.symm
   generalize AH s r=e at *
   repeat'((first|(refine A2 (x:=r) oI (by omega) ?_)|refine A0 hf ?_|(refine B0 ?_ ?_;kernel_rfl) |refine S2 ?_|(refine T6 ?_ ?_<;>intro h<;>try exact V1 h)|intro el mI mJ|intro el mI|exact T4|refine T5 ?_ ?_|intro ex)<;>try conv=>whnf)
   all_goals first
    |(exfalso;omega)
    |exact A1 rfl (congrArg AV.b hD.symm)
  have qN:=Decidable.of_not_not qN
  obtain⟨r0,nh⟩:=KP qN
  rw[qN,if_neg (by decide),O5 nh]at hx
  rw[qN]at hf
  by_cases qr:k=0
  ·subst qr
   rw[if_neg (by omega)]at hx
   have mR:=nC 0 hK hr hx
   repeat'((first|(refine A2 (x:=r) oI (by omega) ?_)|(refine A2 (x:=r0) nh (by omega) ?_)|refine A0 hf ?_|(refine B0 ?_ ?_;kernel_rfl) |refine S2 ?_|(refine T6 ?_ ?_<;>intro h<;>try exact V1 h)|intro el mI mJ|intro el mI|exact T4|refine T5 ?_ ?_|intro ex)<;>try conv=>whnf)
   all_goals first
    |(exfalso;omega)
    |exact⟨0+1,mR,by omega,A6 h0⟩
  ·obtain⟨q,hq⟩:∃q,rows[k-1]?=some q:=⟨_,List.getElem?_eq_getElem (by omega)⟩
   obtain⟨q0,rz⟩:=KP (qf k hK (i:=k-1) (by omega) hq)
   rw[D7 hq,O5 rz]at hx
   have nq:rows[((k:Int)-1).toNat]?=some q:=by rw[show ((k:Int)-1).toNat=k-1 by omega];exact hq
   by_cases nT:r0≤q0
   ·rw[if_pos ⟨by omega,nT⟩]at hx
    have hh:=qT k hK hr (by rw[hx];decide)
    rw[hx]at hh
    have hD:=mc hh.symm
    repeat'((first|(refine A2 (x:=q) nq (by omega) ?_)|(refine A2 (x:=q0) rz (by omega) ?_)|(refine A2 (x:=r) oI (by omega) ?_)|(refine A2 (x:=r0) nh (by omega) ?_)|refine A0 hf ?_|(refine B0 ?_ ?_;kernel_rfl) |refine S2 ?_|(refine T6 ?_ ?_<;>intro h<;>try exact V1 h)|intro el mI mJ|intro el mI|exact T4|refine T5 ?_ ?_|intro ex)<;>try conv=>whnf)
    all_goals first
     |(exfalso;omega)
     |exact A1 rfl (congrArg AV.b hD.symm)
   ·rw[if_neg (fun h=>nT h.2)]at hx
    have mR:=nC k hK hr hx
    repeat'((first|(refine A2 (x:=q) nq (by omega) ?_)|(refine A2 (x:=q0) rz (by omega) ?_)|(refine A2 (x:=r) oI (by omega) ?_)|(refine A2 (x:=r0) nh (by omega) ?_)|refine A0 hf ?_|(refine B0 ?_ ?_;kernel_rfl) |refine S2 ?_|(refine T6 ?_ ?_<;>intro h<;>try exact V1 h)|intro el mI mJ|intro el mI|exact T4|refine T5 ?_ ?_|intro ex)<;>try conv=>whnf)
    all_goals first
     |(exfalso;omega)
     |exact⟨k+1,mR,by omega,A6 h0⟩
 ·have hD:=ox (qk k hK (by omega))
  rw[hD]
  repeat'((first|refine S2 ?_|(refine T6 ?_ ?_<;>intro h<;>try exact V1 h)|intro el mI mJ|intro el mI|exact T4|refine T5 ?_ ?_|intro ex)<;>try conv=>whnf)
  all_goals first
   |(exfalso;omega)
   |skip
  refine A9 (ι:=Nat) (fun k=>⟨[(1,.ref 0 0),(4,.i k)],1,[(0,some (.box (R7 s rows)))]⟩)
   (fun k=>k=0) (fun k=>0) 0 rfl (A6 h0) (fun k hk=>?_)
  subst hk
  repeat'((first|refine S2 ?_|(refine T6 ?_ ?_<;>intro h<;>try exact V1 h)|intro el mI mJ|intro el mI|exact T4|refine T5 ?_ ?_|intro ex)<;>try conv=>whnf)
  all_goals first
   |(exfalso;omega)
   |exact A1 rfl rfl
end Go.Proofs.YtiphlhoclaogjaaGreatDoor

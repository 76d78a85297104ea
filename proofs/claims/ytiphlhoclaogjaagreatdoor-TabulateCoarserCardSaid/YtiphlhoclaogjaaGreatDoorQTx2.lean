/- Chapter 12: keys, by the reference. -/
import Derived.Test.YtiphlhoclaogjaaGreatDoorQTx0
import Derived.Test.YtiphlhoclaogjaaGreatDoorQTa0
import Derived.Test.YtiphlhoclaogjaaGreatDoorQCf1
import Derived.Test.YtiphlhoclaogjaaGreatDoorQDr8
import Derived.Test.YtiphlhoclaogjaaGreatDoorQCm1
import Derived.Test.YtiphlhoclaogjaaGreatDoorQRg0
import Derived.Test.YtiphlhoclaogjaaGreatDoorQF5
import Derived.Test.YtiphlhoclaogjaaGreatDoorQTa2
import Derived.Test.YtiphlhoclaogjaaGreatDoorQQn2
set_option linter.unusedVariables false
set_option linter.unnecessarySimpa false
set_option linter.unusedSimpArgs false
set_option maxHeartbeats 64000000
namespace Go.Proofs.YtiphlhoclaogjaaGreatDoor
open Go Go.Av
attribute [local irreducible] C7 B1 D1 C8 DQ D0 C6 St.le A3 B8
set_option maxRecDepth 100000
theorem mg(z:Int):0≤uW z∧uW z≤18446744073709551615:=by
 have:uW z=z % 18446744073709551616:=by
  unfold uW IntKind.wrap
  simp[IntKind.signed,IntKind.bits]
 rw[this]
 omega
theorem jd(g:Int):Ua g 54=g / 18014398509481984:=by
 show g.fdiv (2 ^ 54)=_
 rw[Int.fdiv_eq_ediv_of_nonneg _ (by decide)]
 rfl
def MM(g:Int):Int:=uW (lq g (Ua g 31)*13787848793156543929)
def MN(secret round half:Int):Int :=
 if secret<0∨1152921504606846976≤secret∨round<0∨7<round∨half<0∨1023<half then 0
 else IntKind.i64.wrap (Ua (Fu MM 3 (uW (uW (uW secret+uW (uW round*11400714819323198485))+uW (uW half*14029467366897019727)))) 54)
theorem je(secret round half:Int):0≤MN secret round half∧MN secret round half≤1023:=by
 unfold MN
 split
 ·exact⟨by decide,by decide⟩
 ·generalize uW (uW (uW secret+uW (uW round*11400714819323198485))+uW (uW half*14029467366897019727))=g
  have hb:0≤Fu MM 3 g∧Fu MM 3 g≤18446744073709551615:=mg _
  generalize Fu MM 3 g=G at *
  rw[jd,P4 (by omega)]
  omega
theorem Vt(secret round half:Int):A3 Tryz.prog 149 [.i secret,.i round,.i half] (.i (MN secret round half)):=by
 unfold MN
 by_cases hc:secret<0∨1152921504606846976≤secret∨round<0∨7<round∨half<0∨1023<half
 ·rw[if_pos hc]
  refine C1 Tryz.func149 54 fun nd E h0=>?_
  clear nd
  repeat'((first|refine S2 ?_|(refine T6 ?_ ?_<;>intro h<;>try exact V1 h)|intro el nX nY|intro el nX|exact T4|refine T5 ?_ ?_|intro ex)<;>try conv=>whnf)
  all_goals first
   |(exfalso;omega)
   |exact A0 rfl rfl
 rw[if_neg hc]
 generalize hG:Fu MM 3 (uW (uW (uW secret+uW (uW round*11400714819323198485))+uW (uW half*14029467366897019727)))=G
 refine C1 Tryz.func149 54 fun nd E h0=>?_
 clear nd
 repeat'((first|refine S2 ?_|(refine T6 ?_ ?_<;>intro h<;>try exact V1 h)|intro el nX nY|intro el nX|exact T4|refine T5 ?_ ?_|intro ex)<;>try conv=>whnf)
 all_goals first
  |(exfalso;omega)
  |skip
 refine B2 (ι:=Nat×Int) (fun x=>⟨[(7,.v (.int .u64 x.2)),(8,.i x.1)],0,[]⟩)
  (fun x=>x.1≤3∧Fu MM (3-x.1) x.2=G) (fun x=>3-x.1) (0,uW (uW (uW secret+uW (uW round*11400714819323198485))+uW (uW half*14029467366897019727))) ⟨Nat.zero_le _,hG⟩ (A6 h0) (fun x hI=>?_)
 obtain⟨k,g⟩:=x
 obtain⟨i1,i2⟩:=hI
 dsimp only at i1 i2 ⊢
 by_cases hk:k<3
 ·rw[show 3-k=(3-(k+1))+1 by omega,Fu]at i2
  repeat'((first|refine S2 ?_|(refine T6 ?_ ?_<;>intro h<;>try exact V1 h)|intro el nX nY|intro el nX|exact T4|refine T5 ?_ ?_|intro ex)<;>try conv=>whnf)
  all_goals first
   |(exfalso;omega)
   |exact⟨(k+1,MM g),⟨by dsimp only;omega,i2⟩,by dsimp only;omega,A6 h0⟩
 ·rw[show 3-k=0 by omega,Fu]at i2
  subst i2
  repeat'((first|refine S2 ?_|(refine T6 ?_ ?_<;>intro h<;>try exact V1 h)|intro el nX nY|intro el nX|exact T4|refine T5 ?_ ?_|intro ex)<;>try conv=>whnf)
  all_goals first
   |(exfalso;omega)
   |exact A0 rfl rfl
def Jq(secret n:Int):Bool:=decide (0≤secret∧secret<1152921504606846976∧0≤n∧n<1048576)
theorem RI(secret n:Int):A3 Tryz.prog 148 [.i secret,.i n] (.b (Jq secret n)):=by
 unfold Jq
 by_cases hc:0≤secret∧secret<1152921504606846976∧0≤n∧n<1048576
 ·rw[decide_eq_true hc]
  refine C1 Tryz.func148 19 fun nd E h0=>?_
  clear nd
  repeat'((first|refine S2 ?_|(refine T6 ?_ ?_<;>intro h<;>try exact V1 h)|intro el nX nY|intro el nX|exact T4|refine T5 ?_ ?_|intro ex)<;>try conv=>whnf)
  all_goals first
   |(exfalso;omega)
   |exact A0 rfl rfl
   |exact A0 rfl (congrArg AV.b (decide_eq_true (by omega)))
 ·rw[decide_eq_false hc]
  refine C1 Tryz.func148 19 fun nd E h0=>?_
  clear nd
  repeat'((first|refine S2 ?_|(refine T6 ?_ ?_<;>intro h<;>try exact V1 h)|intro el nX nY|intro el nX|exact T4|refine T5 ?_ ?_|intro ex)<;>try conv=>whnf)
  all_goals first
   |(exfalso;omega)
   |exact A0 rfl rfl
   |exact A0 rfl (congrArg AV.b (decide_eq_false (by omega)))
abbrev ZU(a b:Int):Int:=IntKind.i64.wrap ((BitVec.ofInt IntKind.i64.bits a ^^^ BitVec.ofInt IntKind.i64.bits b).toNat:Int)
theorem LS{a:Int}(h0:0≤a)(h1:a≤1023):(BitVec.ofInt 64 a).toNat<2 ^ 10:=by
 rw[BitVec.toNat_ofInt]
 omega
theorem jf{a b:Int}(ha:0≤a∧a≤1023)(hb:0≤b∧b≤1023):0≤ZU a b∧ZU a b≤1023:=by
 have h:(BitVec.ofInt 64 a ^^^ BitVec.ofInt 64 b).toNat<2 ^ 10:=by
  rw[BitVec.toNat_xor]
  exact Nat.xor_lt_two_pow (LS ha.1 ha.2) (LS hb.1 hb.2)
 show 0≤IntKind.i64.wrap ((BitVec.ofInt 64 a ^^^ BitVec.ofInt 64 b).toNat:Int)∧IntKind.i64.wrap ((BitVec.ofInt 64 a ^^^ BitVec.ofInt 64 b).toNat:Int)≤1023
 generalize (BitVec.ofInt 64 a ^^^ BitVec.ofInt 64 b).toNat=n at *
 rw[P4 (by omega)]
 omega
def Dr(secret id:Int):Nat→Int×Int
 |0=>(id.tdiv 1024,id.tmod 1024)
 |i+1=>((Dr secret id i).2,ZU (Dr secret id i).1 (MN secret i (Dr secret id i).2))
def FS(secret id:Int):Int:=if Jq secret id=true then (Dr secret id 8).1*1024+(Dr secret id 8).2 else -1
theorem Ud{secret id:Int}(h:0≤id∧id<1048576):∀i,(0≤(Dr secret id i).1∧(Dr secret id i).1≤1023)∧(0≤(Dr secret id i).2∧(Dr secret id i).2≤1023)
 |0=>by
  unfold Dr
  dsimp only
  rw[Int.tdiv_eq_ediv_of_nonneg h.1,Int.tmod_eq_emod_of_nonneg h.1]
  omega
 |i+1=>by
  have ih:=Ud (secret:=secret) h i
  unfold Dr
  exact⟨ih.2,jf ih.1 (je _ _ _)⟩
theorem jg{secret id:Int}(h:Jq secret id=true):0≤FS secret id∧FS secret id≤1048575:=by
 unfold FS
 rw[if_pos h]
 unfold Jq at h
 have h:=of_decide_eq_true h
 have:=Ud (secret:=secret) (id:=id) ⟨h.2.2.1,h.2.2.2⟩ 8
 omega
theorem cO(secret id:Int):A3 Tryz.prog 96 [.i secret,.i id] (.i (FS secret id)):=by
 have h1:=RI secret id
 unfold FS
 cases hb:Jq secret id with
 |false =>
  rw[if_neg (by decide)]
  rw[hb]at h1
  refine C1 Tryz.func96 31 fun nd E h0=>?_
  clear nd
  repeat'((first|refine A1 h1 ?_ |refine S2 ?_|(refine T6 ?_ ?_<;>intro h<;>try exact V1 h)|intro el nX nY|intro el nX|exact T4|refine T5 ?_ ?_|intro ex)<;>try conv=>whnf)
  all_goals first
   |(exfalso;omega)
   |exact A0 rfl rfl
 |true =>
  rw[if_pos rfl]
  rw[hb]at h1
  unfold Jq at hb
  have hb:=of_decide_eq_true hb
  have rq:=Ud (secret:=secret) (id:=id) ⟨hb.2.2.1,hb.2.2.2⟩
  have su:0≤id.tdiv 1024∧id.tdiv 1024≤1023:=by rw[Int.tdiv_eq_ediv_of_nonneg hb.2.2.1];omega
  have h2:=fun (i half:Int)=>Vt secret i half
  have hs:∀i:Nat,Dr secret id (i+1)=((Dr secret id i).2,ZU (Dr secret id i).1 (MN secret i (Dr secret id i).2)):=fun _=>rfl
  have hz:Dr secret id 0=(id.tdiv 1024,id.tmod 1024):=rfl
  generalize Dr secret id=K at *
  refine C1 Tryz.func96 31 fun nd E h0=>?_
  clear nd
  repeat'((first|refine A1 h1 ?_|(refine B5 ?_ ?_;kernel_rfl) |refine S2 ?_|(refine T6 ?_ ?_<;>intro h<;>try exact V1 h)|intro el nX nY|intro el nX|exact T4|refine T5 ?_ ?_|intro ex)<;>try conv=>whnf)
  all_goals first
   |(exfalso;omega)
   |skip
  refine B2 (ι:=Nat) (fun i=>⟨[(0,.i secret),(5,.i (K i).1),(6,.i (K i).2),(7,.i i)],0,[]⟩) (fun i=>i≤8) (fun i=>8-i) 0 (Nat.zero_le _)
   (B3 h0 rfl ⟨rfl,congrArg (fun z:Int×Int=>some (AV.i z.1)) hz.symm,congrArg (fun z:Int×Int=>some (AV.i z.2)) hz.symm,rfl,trivial⟩ trivial rfl rfl rfl) (fun i hi=>?_)
  have hbi:=rq i
  have xV:=hs i
  have h3:=h2 i (K i).2
  by_cases hi8:i<8
  ·repeat'((first|refine A1 h3 ?_|(refine B5 ?_ ?_;kernel_rfl) |refine S2 ?_|(refine T6 ?_ ?_<;>intro h<;>try exact V1 h)|intro el nX nY|intro el nX|exact T4|refine T5 ?_ ?_|intro ex)<;>try conv=>whnf)
   all_goals first
    |(exfalso;omega)
    |exact⟨i+1,by omega,by omega,B3 h0 rfl ⟨rfl,congrArg (fun z:Int×Int=>some (AV.i z.1)) xV.symm,congrArg (fun z:Int×Int=>some (AV.i z.2)) xV.symm,rfl,trivial⟩ trivial rfl rfl rfl⟩
  ·obtain rfl:i=8:=by omega
   repeat'((first|refine S2 ?_|(refine T6 ?_ ?_<;>intro h<;>try exact V1 h)|intro el nX nY|intro el nX|exact T4|refine T5 ?_ ?_|intro ex)<;>try conv=>whnf)
   all_goals first
    |(exfalso;omega)
    |exact A0 rfl rfl
def CH(l:List UInt8)(s:A4):Nat→List (List Int)×Nat→List (List Int)×Nat
 |0,x=>x
 |n+1,x=>CH l s n (o4 x.1 (j7 l x.2 s).1,(j7 l x.2 s).2)
def Ab(l:List UInt8)(a:Nat)(most:Int):(A4×List (List Int))×Nat :=
 let r:=CH l (Bh l a).1 (B7 l (Bh l a).2 (most+1)).1 ([],(B7 l (Bh l a).2 (most+1)).2)
 (((Bh l a).1,r.1),r.2)
theorem XE{s:A4}(hd:C3 s)(l:List UInt8)(a:Nat):(j7 l a s).1≠[]:=by
 have h:=(ic hd l a).1
 have h2:=hd.lens
 intro e
 rw[e]at h
 simp at h;omega
theorem jh{row:List Int}(hr:row≠[]){q:List (List Int)×Bool}{x:List Int}(hx:x≠[])(hq:∀y∈q.1,y≠[]):∀y∈(o3 row q x).1,y≠[]:=by
 obtain⟨out,done⟩:=q
 simp only[o3]
 split
 ·exact hq
 ·split
  ·intro y hy
   simp only[List.mem_append,List.mem_singleton]at hy
   rcases hy with (hy|rfl)|rfl
   ·exact hq y hy
   ·exact hr
   ·exact hx
  ·intro y hy
   simp only[List.mem_append,List.mem_singleton]at hy
   rcases hy with hy|rfl
   ·exact hq y hy
   ·exact hx
theorem XF{l:List (List Int)}{row:List Int}(hr:row≠[])(hl:∀y∈l,y≠[]):∀y∈o4 l row,y≠[]:=by
 have key:∀(l:List (List Int)) (q:List (List Int)×Bool),(∀y∈l,y≠[])→(∀y∈q.1,y≠[])→∀y∈(l.foldl (o3 row) q).1,y≠[]:=by
  intro l
  induction l with
  |nil=>intro q _ hq;exact hq
  |cons x r ih=>intro q hl hq;exact ih _ (fun y hy=>hl y (by simp[hy])) (jh hr (hl x (by simp)) hq)
 have h:=key l ([],false) hl (fun y hy=>by cases hy)
 unfold o4
 dsimp only at h ⊢
 split
 ·exact h
 ·intro y hy
  simp only[List.mem_append,List.mem_singleton]at hy
  rcases hy with hy|rfl
  ·exact h y hy
  ·exact hr
abbrev R5(s:A4)(rows:List (List Int)):List AV:=[.sl 2 (s.lists.map x4),.sl 7 (s.cols.map Z6),.sl 1 (rows.map G3),.v (.slice none 0 0),.i 0]
abbrev lr:Nat:=39
theorem fb(l:List UInt8)(a:Nat)(most:Int)(hl:l.length≤400)(hm:0≤most)(qj:most≤1000):B8 Tryz.prog 36 1 (X0 l a) [.ref 0 0,.i most] 1 (X0 l (Ab l a most).2) (.agg (R5 (Ab l a most).1.1 (Ab l a most).1.2)):=by
 have h1:=bX l a hl
 have hd:=Ng l a
 unfold Ab
 dsimp only
 generalize Bh l a=S at *
 obtain⟨s,a1⟩:=S
 dsimp only at h1 hd ⊢
 have h2:=K0 l a1 (most+1) hl
 have h3:=G1 l a1 (n:=most+1) (by omega)
 generalize B7 l a1 (most+1)=Q at *
 obtain⟨n,a2⟩:=Q
 dsimp only at h2 h3 ⊢
 refine a8 Tryz.func36 28 fun E h0=>?_
 repeat'((first|refine S2 ?_|(refine T6 ?_ ?_<;>intro h<;>try exact V1 h)|intro el nX nY|intro el nX|exact T4|refine T5 ?_ ?_|intro ex|refine nc [0] [0] h1 rfl rfl rfl ⟨rfl,trivial⟩ ?_|refine nc [0] [0] h2 rfl rfl rfl ⟨rfl,trivial⟩ ?_)<;>try conv=>whnf)
 clear h1 h2
 refine B2 (ι:=Nat×List (List Int)×Nat) (fun x=>⟨[(0,.ref 0 0),(4,.ref 1 0),(5,.iptr (sL s)),(6,.ref 3 0),(7,.i x.1)],4,[(0,some (.box [.sl 1 (l.map N9),.i x.2.2])),(1,some (.box [.v (.slice none 0 0),.v (.slice none 0 0),.v (.slice none 0 0),.v (.slice none 0 0),.i 0])),(3,some (.box (R5 s x.2.1)))]⟩)
  (fun x=>x.1≤n∧x.2.1.length≤n-x.1∧(∀y∈x.2.1,y≠[])∧CH l s n ([],a2)=CH l s x.1 x.2) (fun x=>x.1) (n,[],a2) ⟨Nat.le_refl _,by simp,(fun y hy=>by cases hy),rfl⟩
  (C2 (bS 3 (R5 s []) rfl ⟨.refl _,.refl _,.nil 1,.refl _,.refl _,trivial⟩) (A6 h0)) (fun x hI=>?_)
 obtain⟨k,rows,b⟩:=x
 obtain⟨hk,nZ,hne,hI⟩:=hI
 dsimp only at hk nZ hne hI ⊢
 cases k with
 |zero =>
  rw[hI]
  simp only[CH]
  repeat'((first|refine S2 ?_|(refine T6 ?_ ?_<;>intro h<;>try exact V1 h)|intro el nX nY|intro el nX|exact T4|refine T5 ?_ ?_|intro ex)<;>try conv=>whnf)
  all_goals first
   |exact M0 (rvs:=[.cell 4 lr]) (vs:=[_]) ⟨1,_,_,rfl,rfl,inferInstance,rfl,rfl,trivial⟩ rfl rfl (A6 h0) rfl
   |(exfalso;omega)
 |succ k =>
  have nl:=bY l b s hd hl
  have rC:=Tg rows (j7 l b s).1 (by omega) hne (XE hd l b)
  have qI:=Hn rows (j7 l b s).1
  have hpn:=XF (XE hd l b) hne
  have vH:CH l s (k+1) (rows,b)=CH l s k (o4 rows (j7 l b s).1,(j7 l b s).2):=rfl
  rw[vH]at hI
  generalize o4 rows (j7 l b s).1=us at *
  generalize j7 l b s=R at *
  obtain⟨r,b2⟩:=R
  dsimp only at nl rC hI vH
  repeat'((first|(refine G9 6 ?_;refine S9 (id:=6) (σ':=⟨[(0,.ref 0 0),(4,.ref 1 0),(5,.iptr (sL s)),(6,.ref 3 0),(7,.i ((k+1:Nat):Int))],4,[(0,some (.box [.sl 1 (l.map N9),.i b])),(1,some (.box [.v (.slice none 0 0),.v (.slice none 0 0),.v (.slice none 0 0),.v (.slice none 0 0),.i 0])),(3,some (.box (R5 s rows)))]⟩) (A6 h0) ?_;refine H9 (id:=6) ⟨[(0,.ref 0 0),(4,.ref 1 0),(5,.iptr (sL s)),(6,.ref 3 0),(7,.i ((k+1:Nat):Int))],4,[(0,some (.box [.sl 1 (l.map N9),.i b2])),(1,some (.box [.v (.slice none 0 0),.v (.slice none 0 0),.v (.slice none 0 0),.v (.slice none 0 0),.i 0])),(3,some (.box (R5 s us)))]⟩ ?_ ?_) |refine S2 ?_|(refine T6 ?_ ?_<;>intro h<;>try exact V1 h)|intro el nX nY|intro el nX|exact T4|refine T5 ?_ ?_|intro ex|refine nc [0] [0] nl rfl rfl rfl ⟨rfl,trivial⟩ ?_|refine A1 rC ?_)<;>try conv=>whnf)
  all_goals first
   |exact A6 h0
   |exact⟨(k,us,b2),⟨by dsimp only;omega,by dsimp only;omega,hpn,hI⟩,by dsimp only;omega,B3 h0 rfl ⟨rfl,rfl,rfl,rfl,congrArg (fun z:Int=>some (AV.i z)) (by omega),trivial⟩ ⟨rfl,rfl,rfl,trivial⟩ rfl rfl rfl⟩
   |(exfalso;omega)
theorem ZV(op:Int)(vs:List Int)(h5:op=5∨op=6→2≤vs.length)(h7:op=7→1≤vs.length)(hb:∀v∈vs,-1≤v∧v≤1):A3 Tryz.prog 188 [.i op,.sl 1 (vs.map wA)] (.i (i7 op vs 1)):=by
 have rq:∀(k:Nat) v,vs[k]?=some v→-1≤v∧v≤1:=fun k v h=>hb v (List.mem_of_getElem? h)
 refine C1 Tryz.func188 30 fun nd E h0=>?_
 clear nd
 repeat'((first|(refine J0 ?_ ?_;(have:=rq _ _ nX;omega)) |refine S2 ?_|(refine T6 ?_ ?_<;>intro h<;>try exact V1 h)|intro el nX nY|intro el nX|exact T4|refine T5 ?_ ?_|intro ex)<;>try conv=>whnf)
 all_goals first
  |(refine A0 rfl (congrArg AV.i ?_);unfold i7;rw[if_neg (by omega),if_neg (by omega),if_neg (by omega),if_pos (by assumption),D2 (k:=0) (by assumption)];done)
  |(refine A0 rfl (congrArg AV.i ?_);unfold i7;rw[if_neg (by omega),if_pos (by assumption),D2 (k:=0) (by assumption),D2 (k:=1) (by assumption)];done)
  |(refine A0 rfl (congrArg AV.i ?_);unfold i7;rw[if_neg (by omega),if_neg (by assumption),if_pos (by assumption),D2 (k:=0) (by assumption),D2 (k:=1) (by assumption)];done)
  |(refine A0 rfl (congrArg AV.i ?_);unfold i7;(repeat' split)<;>first|rfl|omega)
theorem cP(g:B0→Int)(c:B0)(ho:¬(c.op=2∨c.op=3∨c.op=4))(h:1≤c.op∧c.op≤7):v5 g c=i7 c.op (c.kids.map (v5 g)) 1:=by
 rw[Eo]
 unfold i7
 (repeat' split)<;>first|rfl|omega
theorem ZW(s:A4)(hr:C5 s=0)(row:List Int)(hl:row.length=s.cols.length)(c:B0):T9 s c=0→A3 Tryz.prog 190 [sA s,E0 c,.sl 1 (row.map wA)] (.i (BQ s c row)):=by
 refine O7 (p:=fun c=>T9 s c=0→A3 Tryz.prog 190 [sA s,E0 c,.sl 1 (row.map wA)] (.i (BQ s c row))) (fun c ih h=>?_) c
 obtain⟨h1,h2⟩:=Ha h
 obtain⟨p1,p2,p3,_⟩:=Ce h1
 obtain⟨k1,k2,k3⟩:=KO c.op
 have hg:∀a,-1≤Q9 s a (row.getD a.col.toNat 0)∧Q9 s a (row.getD a.col.toNat 0)≤1:=fun a=>TK _ _ _
 by_cases ho:c.op=2∨c.op=3∨c.op=4
 ·have qo:=fun v=>OE s c v ho (Fl hr h1)
  have hc:=p3 ho
  obtain⟨v,hv⟩:∃v,row[c.col.toNat]?=some v:=⟨_,List.getElem?_eq_getElem (by omega)⟩
  have qw:BQ s c row=Q9 s c v:=by
   unfold BQ
   rw[Eo]
   unfold i7
   rw[if_neg (by omega),if_neg (by omega),if_neg (by omega),if_neg (by omega),D2 hv]
  rw[qw]
  rw[G0]at *
  refine C1 Tryz.func190 52 fun nd E h0=>?_
  clear nd
  repeat'((first|(refine A2 (x:=v) hv (by omega) ?_)|refine A1 (qo _) ?_|(refine B5 ?_ ?_;kernel_rfl) |refine S2 ?_|(refine T6 ?_ ?_<;>intro h<;>try exact V1 h)|intro el nX nY|intro el nX|exact T4|refine T5 ?_ ?_|intro ex)<;>try conv=>whnf)
  all_goals first
   |exact A0 rfl rfl
   |(exfalso;omega)
 ·unfold BQ
  rw[cP _ c ho p1]
  have xd:=ZV c.op (c.kids.map (v5 fun a=>Q9 s a (row.getD a.col.toNat 0))) (fun h=>by rw[List.length_map];have:=k1 h;omega) (fun h=>by rw[List.length_map];have:=k2 h;omega) (fun v hv=>by
   obtain⟨k,_,rfl⟩:=List.mem_map.1 hv
   exact Wc hg k)
  have ve:∀k,k∈c.kids→A3 Tryz.prog 190 [sA s,E0 k,.sl 1 (row.map wA)] (.i (v5 (fun a=>Q9 s a (row.getD a.col.toNat 0)) k)):=fun k hk=>ih k hk (h2 k hk)
  generalize (v5 fun a=>Q9 s a (row.getD a.col.toNat 0))=T at *
  rw[G0]at *
  refine C1 Tryz.func190 52 fun nd E h0=>?_
  have nZ:c.kids.length≤9223372036854775807:=by
   have:=((nd (.agg (P1 c)) (by simp)).agg (.sl 6 (c.kids.map J2)) (by simp)).sl
   simpa using this
  clear nd
  repeat'((first|refine S2 ?_|(refine T6 ?_ ?_<;>intro h<;>try exact V1 h)|intro el nX nY|intro el nX|exact T4|refine T5 ?_ ?_|intro ex)<;>try conv=>whnf)
  all_goals first
   |(exfalso;omega)
   |skip
  refine B2 (ι:=Nat) (fun k=>⟨[(2,.sl 1 (row.map wA)),(3,.ref 0 0),(4,.ref 1 0),(7,.row 2 0 k),(8,.i k)],3,[(0,some (.box (sL s))),(1,some (.box (P1 c))),(2,some (.row 3 1 0 (((c.kids.take k).map T).map wA)))]⟩) (fun k=>k≤c.kids.length) (fun k=>c.kids.length-k) 0 (Nat.zero_le _)
   (C2 (K7 (d:=7) (e:=3) (sz:=1) rfl) (B3 h0 rfl ⟨rfl,rfl,rfl,rfl,rfl,trivial⟩ ⟨rfl,rfl,⟨0,rfl⟩,trivial⟩ rfl rfl rfl)) (fun k hk=>?_)
  by_cases nf:k<c.kids.length
  ·obtain⟨el,nX⟩:∃el,c.kids[k]?=some el:=⟨_,List.getElem?_eq_getElem nf⟩
   have qK:=ve el (List.mem_of_getElem? nX)
   repeat'((first|(refine A2 (x:=el) nX (by omega) ?_)|(refine G9 7 ?_;refine H9 (id:=7) ⟨[(2,.sl 1 (row.map wA)),(3,.ref 0 0),(4,.ref 1 0),(7,.row 2 0 (k+1)),(8,.i k)],3,[(0,some (.box (sL s))),(1,some (.box (P1 c))),(2,some (.row 3 1 0 (((c.kids.take (k+1)).map T).map wA)))]⟩ ?_ ?_)|refine A1 qK ?_ |refine S2 ?_|(refine T6 ?_ ?_<;>intro h<;>try exact V1 h)|intro el nX nY|intro el nX|exact T4|refine T5 ?_ ?_|intro ex)<;>try conv=>whnf)
   all_goals first
    |exact B3 h0 rfl ⟨rfl,rfl,rfl,rfl,rfl,trivial⟩ ⟨rfl,rfl,⟨_,congrArg (D3.row 3 1 _) (by rw[I0 nX,List.map_append,List.map_append];rfl)⟩,trivial⟩ rfl rfl rfl
    |exact⟨k+1,by omega,by omega,A6 h0⟩
  ·obtain rfl:k=c.kids.length:=by omega
   rw[List.take_length]
   repeat'((first|refine J9 2 ?_|refine A1 xd ?_ |refine S2 ?_|(refine T6 ?_ ?_<;>intro h<;>try exact V1 h)|intro el nX nY|intro el nX|exact T4|refine T5 ?_ ?_|intro ex)<;>try conv=>whnf)
   all_goals first
    |exact A0 rfl rfl
theorem ZX(s:A4)(c:B0)(row:List Int):A3 Tryz.prog 146 [sA s,E0 c,.sl 1 (row.map wA)] (.i (TL s c row)):=by
 have h1:=t6 s c
 have h2:=QX s row
 have h3:¬H0 s c≠0→¬s8 s row≠0→A3 Tryz.prog 190 [sA s,E0 c,.sl 1 (row.map wA)] (.i (BQ s c row)):=fun a b=>have a:=Decidable.of_not_not a;have b:=Decidable.of_not_not b;ZW s (m6 a).1 row (Hb b).2 c (m6 a).2.2.2
 unfold TL
 rw[G0]at *
 refine C1 Tryz.func146 21 fun nd E h0=>?_
 clear nd
 repeat'((first|refine A1 h1 ?_|refine A1 h2 ?_|(refine A1 (h3 (by assumption) (by assumption)) ?_) |refine S2 ?_|(refine T6 ?_ ?_<;>intro h<;>try exact V1 h)|intro el nX nY|intro el nX|exact T4|refine T5 ?_ ?_|intro ex)<;>try conv=>whnf)
 all_goals first
  |(refine A0 rfl (congrArg AV.i ?_);rw[if_neg (by omega)];done)
  |(refine A0 rfl (congrArg AV.i ?_);rw[if_pos (by omega)];done)
def MO(rows:List (List Int))(id:Int):Int:=F3 (fun r=>decide (0<r.length) && decide (r.headD 0=id)) rows 0
theorem Vu(s:A4)(rows:List (List Int))(id:Int):A3 Tryz.prog 95 [.agg (R5 s rows),.i id] (.i (MO rows id)):=by
 unfold MO
 generalize hp:(fun r:List Int=>decide (0<r.length) && decide (r.headD 0=id))=p
 have wn:∀r,p r=(decide (0<r.length) && decide (r.headD 0=id)):=fun r=>by rw[←hp]
 refine C1 Tryz.func95 32 fun nd E h0=>?_
 have nZ:rows.length≤9223372036854775807:=by
  have:=((nd (.agg (R5 s rows)) (by simp)).agg (.sl 1 (rows.map G3)) (by simp[R5])).sl
  simpa using this
 clear nd
 repeat'((first|refine S2 ?_|(refine T6 ?_ ?_<;>intro h<;>try exact V1 h)|intro el nX nY|intro el nX|exact T4|refine T5 ?_ ?_|intro ex)<;>try conv=>whnf)
 refine B2 (ι:=Nat) (fun k=>⟨[(1,.i id),(2,.ref 0 0),(5,.i k)],1,[(0,some (.box (R5 s rows)))]⟩)
  (fun k=>k≤rows.length∧F3 p rows 0=F3 p (rows.drop k) k) (fun k=>rows.length-k) 0 ⟨Nat.zero_le _,rfl⟩ (A6 h0) (fun k hI=>?_)
 obtain⟨hk,hI⟩:=hI
 by_cases no:k<rows.length
 ·obtain⟨r,hr⟩:∃r,rows[k]?=some r:=⟨_,List.getElem?_eq_getElem no⟩
  have oq:rows[((k:Nat):Int).toNat]?=some r:=hr
  rw[H1 hr,F3]at hI
  have xx:=wn r
  cases r with
  |nil =>
   rw[show p []=false from xx,if_neg (by decide)]at hI
   repeat'((first|(refine A2 (x:=([]:List Int)) oq (by omega) ?_)|(refine B5 ?_ ?_;kernel_rfl) |refine S2 ?_|(refine T6 ?_ ?_<;>intro h<;>try exact V1 h)|intro el nX nY|intro el nX|exact T4|refine T5 ?_ ?_|intro ex)<;>try conv=>whnf)
   all_goals first
    |(exfalso;omega)
    |(exfalso;simp at *;done)
    |exact⟨k+1,⟨by omega,hI⟩,by omega,A6 h0⟩
  |cons a t =>
   have h00:(a::t)[((0:Int)).toNat]?=some a:=rfl
   have sc:0<(a::t).length:=by simp
   rw[decide_eq_true sc,Bool.true_and]at xx
   generalize hrr:a::t=r at *
   have hhd:r.headD 0=a:=by rw[←hrr];rfl
   rw[hhd]at xx
   by_cases ha:a=id
   ·rw[xx,decide_eq_true ha,if_pos rfl]at hI
    repeat'((first|(refine A2 (x:=r) oq (by omega) ?_)|(refine A2 (x:=a) h00 (by omega) ?_)|(refine B5 ?_ ?_;kernel_rfl) |refine S2 ?_|(refine T6 ?_ ?_<;>intro h<;>try exact V1 h)|intro el nX nY|intro el nX|exact T4|refine T5 ?_ ?_|intro ex)<;>try conv=>whnf)
    all_goals first
     |(exfalso;omega)
     |exact A0 rfl (congrArg AV.i hI.symm)
   ·rw[xx,decide_eq_false ha,if_neg (by decide)]at hI
    repeat'((first|(refine A2 (x:=r) oq (by omega) ?_)|(refine A2 (x:=a) h00 (by omega) ?_)|(refine B5 ?_ ?_;kernel_rfl) |refine S2 ?_|(refine T6 ?_ ?_<;>intro h<;>try exact V1 h)|intro el nX nY|intro el nX|exact T4|refine T5 ?_ ?_|intro ex)<;>try conv=>whnf)
    all_goals first
     |(exfalso;omega)
     |exact⟨k+1,⟨by omega,hI⟩,by omega,A6 h0⟩
 ·rw[List.drop_eq_nil_of_le (by omega),F3]at hI
  repeat'((first|refine S2 ?_|(refine T6 ?_ ?_<;>intro h<;>try exact V1 h)|intro el nX nY|intro el nX|exact T4|refine T5 ?_ ?_|intro ex)<;>try conv=>whnf)
  all_goals first
   |(exfalso;omega)
   |exact A0 rfl (congrArg AV.i hI.symm)
end Go.Proofs.YtiphlhoclaogjaaGreatDoor

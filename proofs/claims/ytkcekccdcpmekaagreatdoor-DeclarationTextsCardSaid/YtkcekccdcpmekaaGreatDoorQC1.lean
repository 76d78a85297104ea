/- Chapter 5: conditions, and which are right. -/
import Derived.Test.YtkcekccdcpmekaaGreatDoorQB8
set_option linter.unusedVariables false
set_option linter.unnecessarySimpa false
set_option linter.unusedSimpArgs false
set_option maxHeartbeats 64000000
namespace Go.Proofs.YtkcekccdcpmekaaGreatDoor
open Go Go.Av
attribute [local irreducible] E8 B5 E5 E1 DQ E7 E9 St.le A4 A9
set_option maxRecDepth 100000
inductive A1 where
 |mk (op col code lo hi:Int) (kids:List A1)
def A1.op:A1→Int|.mk o _ _ _ _ _=>o
def A1.col:A1→Int|.mk _ c _ _ _ _=>c
def A1.code:A1→Int|.mk _ _ k _ _ _=>k
def A1.lo:A1→Int|.mk _ _ _ l _ _=>l
def A1.hi:A1→Int|.mk _ _ _ _ h _=>h
def A1.kids:A1→List A1|.mk _ _ _ _ _ ks=>ks
mutual
def C3:A1→List AV
 |.mk o c k l h ks=>[.i o,.i c,.i k,.i l,.i h,.sl 6 (Ph ks)]
def Ph:List A1→List (List AV)
 |[]=>[]
 |x::r=>C3 x::Ph r
end
theorem RD:∀ks,Ph ks=ks.map C3
 |[]=>rfl
 |x::r=>by rw[Ph,RD r];rfl
def I9(c:A1):List AV:=[.i c.op,.i c.col,.i c.code,.i c.lo,.i c.hi,.sl 6 (c.kids.map C3)]
theorem Jy(c:A1):C3 c=I9 c:=by
 cases c
 rw[C3,RD];rfl
theorem dq(ks:List A1):ks.map C3=ks.map I9:=List.map_congr_left fun c _=>Jy c
abbrev G9(c:A1):AV:=.agg (I9 c)
abbrev CJ(c:A1):List AV:=[.i c.op,.i c.col,.i c.code,.i c.lo,.i c.hi,.sl 6 (c.kids.map I9)]
theorem T7(c:A1):G9 c=.agg (CJ c):=by
 show AV.agg [.i c.op,.i c.col,.i c.code,.i c.lo,.i c.hi,.sl 6 (c.kids.map C3)]=_
 rw[dq]
theorem Vl{c k:A1}(h:k∈c.kids):SizeOf.sizeOf k<SizeOf.sizeOf c:=by
 cases c with
 |mk o c k l h' ks =>
  have:=List.sizeOf_lt_of_mem (show _∈ks from h)
  simp only[A1.mk.sizeOf_spec]
  omega
theorem T8{p:A1→Prop}(h:∀c,(∀k∈c.kids,p k)→p c)(c:A1):p c :=
 h c fun k _=>T8 h k
termination_by SizeOf.sizeOf c
decreasing_by exact Vl (by assumption)
mutual
def BN:A1→Int→Int
 |.mk _ _ _ _ _ ks,most=>BO ks most 1
def BO:List A1→Int→Int→Int
 |[],_,n=>n
 |x::r,most,n=>if most<n then n else BO r most (n+BN x (most-n))
end
theorem Nb(c:A1)(m:Int):BN c m=BO c.kids m 1:=by cases c;rfl
theorem Jz(c:A1):∀m:Int,1≤BN c m∧BN c m≤max 1 (m+1):=by
 refine T8 (p:=fun c=>∀m:Int,1≤BN c m∧BN c m≤max 1 (m+1)) (fun c ih m=>?_) c
 have key:∀(l:List A1),(∀k∈l,k∈c.kids)→∀n:Int,1≤n→n≤max 1 (m+1)→1≤BO l m n∧BO l m n≤max 1 (m+1):=by
  intro l
  induction l with
  |nil=>intro _ n h1 h2;exact⟨h1,h2⟩
  |cons x r pV =>
   intro hl n h1 h2
   unfold BO
   split
   ·exact⟨h1,h2⟩
   ·have:=ih x (hl x (by simp)) (m-n)
    exact pV (fun k hk=>hl k (by simp[hk])) _ (by omega) (by omega)
 rw[Nb]
 exact key c.kids (fun k hk=>hk) 1 (by omega) (by omega)
mutual
def Q2:A1→Nat
 |.mk _ _ _ _ _ ks=>W0 ks 0+1
def W0:List A1→Nat→Nat
 |[],n=>n
 |x::r,n=>W0 r (max n (Q2 x))
end
theorem Dw(c:A1):Q2 c=W0 c.kids 0+1:=by cases c;rfl
theorem Nc:∀(l:List A1) (n:Nat),n≤W0 l n∧∀k∈l,Q2 k≤W0 l n
 |[],n=>⟨Nat.le_refl _,fun k hk=>by cases hk⟩
 |x::r,n=>by
  obtain⟨h1,h2⟩:=Nc r (max n (Q2 x))
  unfold W0
  refine⟨by omega,fun k hk=>?_⟩
  rcases List.mem_cons.1 hk with rfl|hk
  ·omega
  ·exact h2 k hk
theorem TI(c:A1):∀(m:Int),-100000≤m→m≤100000→A4 Tryz.prog 60 [G9 c,.i m] (.i (BN c m)):=by
 refine T8 (p:=fun c=>∀(m:Int),-100000≤m→m≤100000→A4 Tryz.prog 60 [G9 c,.i m] (.i (BN c m))) (fun c ih m hm1 tj=>?_) c
 rw[T7,Nb]
 refine D0 Tryz.func60 27 fun ki E h0=>?_
 have kf:c.kids.length≤9223372036854775807:=by
  have:=((ki _ (List.mem_cons_self ..)).agg (.sl 6 (c.kids.map I9)) (by simp)).sl
  simpa using this
 clear ki
 repeat'((first|refine S2 ?_|(refine T6 ?_ ?_<;>intro h<;>try exact V1 h)|intro el ke kg|intro el ke|exact T4|refine T5 ?_ ?_|intro ex)<;>try conv=>whnf)
 refine D5 (ι:=Nat×Int) (fun x=>⟨[(1,.i m),(5,.i x.2),(9,.sl 6 (c.kids.map I9)),(10,.i c.kids.length),(11,.i x.1)],1,[(0,some (.box (CJ c)))]⟩) (fun x=>x.1≤c.kids.length∧(1≤x.2∧x.2≤max 1 (m+1))∧BO c.kids m 1=BO (c.kids.drop x.1) m x.2) (fun x=>c.kids.length-x.1) (0,1) ⟨Nat.zero_le _,by dsimp only;omega,rfl⟩
  (B2 h0) (fun x hI=>?_)
 obtain⟨k,n⟩:=x
 obtain⟨hk,hn,hI⟩:=hI
 dsimp only at hk hn hI ⊢
 repeat'((first|(refine A0 (ih _ (List.mem_of_getElem? (by assumption)) _ (by omega) (by omega)) ?_)|(refine E0 ?_ ?_;(have:=Jz el (m-n);omega)) |refine S2 ?_|(refine T6 ?_ ?_<;>intro h<;>try exact V1 h)|intro el ke kg|intro el ke|exact T4|refine T5 ?_ ?_|intro ex)<;>try conv=>whnf)
 all_goals first
  |exact A3 rfl (congrArg AV.i (by rw[hI,O6 ke,BO,if_pos (by assumption)]))
  |exact A3 rfl (congrArg AV.i (by rw[hI,Bh (by assumption)];rfl))
  |exact⟨(k+1,n+BN el (m-n)),⟨by dsimp only;omega,(by have:=Jz el (m-n);dsimp only;omega),by rw[hI,O6 ke,BO,if_neg (by assumption)]⟩,by dsimp only;omega,B2 h0⟩
theorem Vm(c:A1):Q2 c≤100000→A4 Tryz.prog 61 [G9 c] (.i (Q2 c)):=by
 refine T8 (p:=fun c=>Q2 c≤100000→A4 Tryz.prog 61 [G9 c] (.i (Q2 c))) (fun c ih hd=>?_) c
 rw[T7,Dw]at *
 have mw:=Nc c.kids 0
 refine D0 Tryz.func61 20 fun ki E h0=>?_
 have kf:c.kids.length≤9223372036854775807:=by
  have:=((ki _ (List.mem_cons_self ..)).agg (.sl 6 (c.kids.map I9)) (by simp)).sl
  simpa using this
 clear ki
 repeat'((first|refine S2 ?_|(refine T6 ?_ ?_<;>intro h<;>try exact V1 h)|intro el ke kg|intro el ke|exact T4|refine T5 ?_ ?_|intro ex)<;>try conv=>whnf)
 refine D5 (ι:=Nat×Nat) (fun x=>⟨[(3,.i x.2),(7,.sl 6 (c.kids.map I9)),(8,.i c.kids.length),(9,.i x.1)],1,[(0,some (.box (CJ c)))]⟩) (fun x=>x.1≤c.kids.length∧x.2≤W0 c.kids 0∧W0 c.kids 0=W0 (c.kids.drop x.1) x.2) (fun x=>c.kids.length-x.1) (0,0) ⟨Nat.zero_le _,Nat.zero_le _,rfl⟩
  (B2 h0) (fun x hI=>?_)
 obtain⟨k,n⟩:=x
 obtain⟨hk,hn,hI⟩:=hI
 dsimp only at hk hn hI ⊢
 have pJ:∀el,c.kids[k]?=some el→Q2 el≤W0 c.kids 0:=fun el ke=>mw.2 el (List.mem_of_getElem? ke)
 repeat'((first|(refine A0 (ih _ (List.mem_of_getElem? (by assumption)) (by have:=pJ el ke;omega)) ?_) |refine S2 ?_|(refine T6 ?_ ?_<;>intro h<;>try exact V1 h)|intro el ke kg|intro el ke|exact T4|refine T5 ?_ ?_|intro ex)<;>try conv=>whnf)
 all_goals first
  |exact A3 rfl (congrArg AV.i (by rw[hI,Bh (by assumption)];unfold W0;omega))
  |exact⟨(k+1,max n (Q2 el)),⟨by dsimp only;omega,(by have:=pJ el ke;dsimp only;omega),by rw[hI,O6 ke,W0]⟩,by dsimp only;omega,B0 h0 rfl ⟨congrArg (fun z:Int=>some (AV.i z)) (by dsimp only;omega),rfl,rfl,rfl,trivial⟩ ⟨rfl,trivial⟩ rfl rfl rfl⟩
def X5(op:Int):Int:=if op=5∨op=6 then 2 else if op=7 then 1 else 0
theorem Vn(op:Int):A4 Tryz.prog 150 [.i op] (.i (X5 op)):=by
 refine D0 Tryz.func150 9 fun ki E h0=>?_
 clear ki
 repeat'((first|refine S2 ?_|(refine T6 ?_ ?_<;>intro h<;>try exact V1 h)|intro el ke kg|intro el ke|exact T4|refine T5 ?_ ?_|intro ex)<;>try conv=>whnf)
 all_goals first
  |exact A3 rfl (congrArg AV.i (by unfold X5;rw[if_pos (by omega)]))
  |exact A3 rfl (congrArg AV.i (by unfold X5;rw[if_neg (by omega),if_pos (by omega)]))
  |exact A3 rfl (congrArg AV.i (by unfold X5;rw[if_neg (by omega),if_neg (by omega)]))
abbrev Vo(c:A1):Bool:=decide (¬(c.op≠2∧c.op≠3∧c.op≠4∧c.col≠0)∧¬(c.op≠2∧c.code≠0)∧(c.op=3∨c.lo=0∧c.hi=0))
theorem RE(c:A1):A4 Tryz.prog 151 [G9 c] (.b (Vo c)):=by
 rw[T7]
 refine D0 Tryz.func151 46 fun ki E h0=>?_
 clear ki
 repeat'((first|refine S2 ?_|(refine T6 ?_ ?_<;>intro h<;>try exact V1 h)|intro el ke kg|intro el ke|exact T4|refine T5 ?_ ?_|intro ex)<;>try conv=>whnf)
 all_goals first
  |exact A3 rfl (congrArg AV.b (by unfold Vo;rw[decide_eq_true (by omega)]))
  |exact A3 rfl (congrArg AV.b (by unfold Vo;rw[decide_eq_false (by omega)]))
  |exact A3 rfl (congrArg AV.b (by unfold Vo;rw[decide_eq_decide];omega))
def L0(s:A5)(c:A1):Int :=
 if c.op<1∨7<c.op then 4 else if (c.kids.length:Int)≠X5 c.op∨¬(¬(c.op≠2∧c.op≠3∧c.op≠4∧c.col≠0)∧¬(c.op≠2∧c.code≠0)∧(c.op=3∨c.lo=0∧c.hi=0))then 11 else if c.op≠2∧c.op≠3∧c.op≠4 then 0 else
 if c.col<0∨(s.cols.length:Int)≤c.col then 7 else
 if c.op=2 then (if (C7 s c.col).kind≠2 then 7 else if c.code<0∨((E2 s (C7 s c.col)).2.length:Int)≤c.code then 6 else 0)
 else if c.op=3 then (if (C7 s c.col).kind≠3 then 7 else if c.hi<c.lo∨c.lo < -1000000∨1000000<c.hi then 2 else 0)
 else (if (C7 s c.col).kind≠3∨(C7 s c.col).opt=false then 7 else 0)
theorem PN(s:A5)(c:A1)(hr:C8 s=0):A4 Tryz.prog 107 [sA s,G9 c] (.i (L0 s c)):=by
 have hk:=Vn c.op
 have hu:=RE c
 rw[T7]
 refine D0 Tryz.func107 113 fun ki E h0=>?_
 have kf:c.kids.length≤9223372036854775807:=by
  have:=((ki _ (List.mem_cons_of_mem _ (List.mem_cons_self ..))).agg (.sl 6 (c.kids.map I9)) (by simp)).sl
  simpa using this
 clear ki
 rw[T7]at hu
 have oK:∀x,s.cols[c.col.toNat]?=some x→x.kind=2→0≤x.lst∧x.lst<s.lists.length:=fun x hx h2=>by
  have:=AA.lst hr (List.mem_of_getElem? hx) h2
  omega
 repeat'((first|refine A0 hk ?_|refine A0 hu ?_|(refine Do ?_ ?_ (fun lx lr=>?_);(have:=oK _ (by assumption) (by omega);omega);(have:=oK _ (by assumption) (by omega);omega))|(refine I6 ?_ ?_;kernel_rfl) |refine S2 ?_|(refine T6 ?_ ?_<;>intro h<;>try exact V1 h)|intro el ke kg|intro el ke|exact T4|refine T5 ?_ ?_|intro ex)<;>try conv=>whnf)
 all_goals first
  |(refine A3 rfl (congrArg AV.i ?_);unfold L0;(repeat' split)<;>omega)
  |(refine A3 rfl (congrArg AV.i ?_);unfold L0;rw[D4 ke];(repeat' split)<;>omega)
  |(refine A3 rfl (congrArg AV.i ?_);unfold L0;rw[D4 ke,M8 lr];(repeat' split)<;>omega)
  |(refine A3 rfl (congrArg AV.i ?_);unfold L0;rw[D4 ke];(repeat' split)<;>first|rfl|(exfalso;omega)|(exfalso;simp_all;done))
mutual
def J0:A1→Nat
 |.mk _ _ _ _ _ ks=>Z9 ks+1
def Z9:List A1→Nat
 |[]=>0
 |x::r=>J0 x+Z9 r
end
theorem BK(c:A1):J0 c=Z9 c.kids+1:=by cases c;rfl
theorem UE:∀(l:List A1) (m n:Int),n≤BO l m n
 |[],m,n=>by unfold BO;omega
 |x::r,m,n=>by
  unfold BO
  split
  ·omega
  ·have h1:=Jz x (m-n)
   have h2:=UE r m (n+BN x (m-n))
   omega
theorem dr(c:A1):∀m:Int,(BN c m≤m→(J0 c:Int)=BN c m)∧((J0 c:Int)≤m→BN c m=J0 c):=by
 refine T8 (p:=fun c=>∀m:Int,(BN c m≤m→(J0 c:Int)=BN c m)∧((J0 c:Int)≤m→BN c m=J0 c)) (fun c ih m=>?_) c
 have key:∀(l:List A1),(∀k∈l,k∈c.kids)→∀n:Int,(BO l m n≤m→BO l m n=n+Z9 l)∧(n+Z9 l≤m→BO l m n=n+Z9 l):=by
  intro l
  induction l with
  |nil=>intro _ n;unfold BO Z9;exact⟨fun _=>by omega,fun _=>by omega⟩
  |cons x r pV =>
   intro hl n
   obtain⟨i1,i2⟩:=ih x (hl x (by simp)) (m-n)
   obtain⟨j1,j2⟩:=pV (fun k hk=>hl k (by simp[hk])) (n+BN x (m-n))
   have mw:=UE r m (n+BN x (m-n))
   have vz:=Jz x (m-n)
   unfold BO Z9
   by_cases h:m<n
   ·rw[if_pos h]
    exact⟨fun h2=>by omega,fun h2=>by omega⟩
   ·rw[if_neg h]
    refine⟨fun h2=>?_,fun h2=>?_⟩
    ·rw[j1 h2]
     have:=i1 (by omega)
     omega
    ·have:=i2 (by omega)
     rw[this]at j2 ⊢
     rw[j2 (by omega)]
     omega
 obtain⟨k1,k2⟩:=key c.kids (fun k hk=>hk) 1
 rw[Nb,BK]
 exact⟨fun h=>by have:=k1 h;omega,fun h=>by have:=k2 (by omega);omega⟩
theorem UF(c:A1):Q2 c≤J0 c:=by
 refine T8 (p:=fun c=>Q2 c≤J0 c) (fun c ih=>?_) c
 have key:∀(l:List A1),(∀k∈l,k∈c.kids)→∀n:Nat,W0 l n≤max n (Z9 l):=by
  intro l
  induction l with
  |nil=>intro _ n;unfold W0;omega
  |cons x r pV =>
   intro hl n
   have h1:=ih x (hl x (by simp))
   have h2:=pV (fun k hk=>hl k (by simp[hk])) (max n (Q2 x))
   unfold W0 Z9
   omega
 have:=key c.kids (fun k hk=>hk) 0
 rw[Dw,BK]
 omega
mutual
def j7(s:A5):A1→Int
 |.mk o c k l h ks=>if L0 s (.mk o c k l h ks)=0 then q9 s ks else L0 s (.mk o c k l h ks)
def q9(s:A5):List A1→Int
 |[]=>0
 |x::r=>if j7 s x=0 then q9 s r else j7 s x
end
theorem FI(s:A5)(c:A1):j7 s c=if L0 s c=0 then q9 s c.kids else L0 s c:=by cases c;rfl
theorem PO(s:A5)(hr:C8 s=0)(c:A1):A4 Tryz.prog 62 [sA s,G9 c] (.i (j7 s c)):=by
 refine T8 (p:=fun c=>A4 Tryz.prog 62 [sA s,G9 c] (.i (j7 s c))) (fun c ih=>?_) c
 have h1:=PN s c hr
 rw[T7]at h1 ⊢
 rw[FI]
 refine D0 Tryz.func62 29 fun ki E h0=>?_
 have kf:c.kids.length≤9223372036854775807:=by
  have:=((ki _ (List.mem_cons_of_mem _ (List.mem_cons_self ..))).agg (.sl 6 (c.kids.map I9)) (by simp)).sl
  simpa using this
 clear ki
 repeat'((first|refine A0 h1 ?_ |refine S2 ?_|(refine T6 ?_ ?_<;>intro h<;>try exact V1 h)|intro el ke kg|intro el ke|exact T4|refine T5 ?_ ?_|intro ex)<;>try conv=>whnf)
 all_goals first
  |exact A3 rfl (congrArg AV.i (by rw[if_neg (by assumption)]))
  |skip
 rw[if_pos (Decidable.of_not_not (by assumption))]
 refine D5 (ι:=Nat) (fun k=>⟨[(2,.ref 0 0),(16,.sl 6 (c.kids.map I9)),(17,.i c.kids.length),(18,.i k)],2,[(0,some (.box (sL s))),(1,some (.box (CJ c)))]⟩) (fun k=>k≤c.kids.length∧q9 s c.kids=q9 s (c.kids.drop k)) (fun k=>c.kids.length-k) 0 ⟨Nat.zero_le _,rfl⟩
  (B2 h0) (fun k hI=>?_)
 obtain⟨hk,hI⟩:=hI
 repeat'((first|(refine A0 (ih _ (List.mem_of_getElem? (by assumption))) ?_) |refine S2 ?_|(refine T6 ?_ ?_<;>intro h<;>try exact V1 h)|intro el ke kg|intro el ke|exact T4|refine T5 ?_ ?_|intro ex)<;>try conv=>whnf)
 all_goals first
  |exact A3 rfl (congrArg AV.i (by rw[hI,O6 ke,q9,if_neg (by assumption)]))
  |exact A3 rfl (congrArg AV.i (by rw[hI,Bh (by assumption)];rfl))
  |exact⟨k+1,⟨by omega,by rw[hI,O6 ke,q9,if_pos (Decidable.of_not_not (by assumption))]⟩,by omega,B2 h0⟩
def G6(s:A5)(c:A1):Int:=if C8 s=0 then (if 40<J0 c then 1 else if 10<Q2 c then 22 else j7 s c)else C8 s
theorem CR(s:A5)(c:A1):A4 Tryz.prog 30 [sA s,G9 c] (.i (G6 s c)):=by
 have h1:=BJ s
 have h2:=TI c 40 (by omega) (by omega)
 have h3:(J0 c:Int)≤40→A4 Tryz.prog 61 [G9 c] (.i (Q2 c)):=fun h=>Vm c (by have:=UF c;omega)
 have h4:=fun hr=>PO s hr c
 obtain⟨t1,t2⟩:=dr c 40
 rw[T7]at *
 refine D0 Tryz.func30 23 fun ki E h0=>?_
 clear ki
 unfold G6
 repeat'((first|refine A0 h1 ?_|refine A0 h2 ?_|refine A0 (h3 (by omega)) ?_|refine A0 (h4 (Decidable.of_not_not (by assumption))) ?_ |refine S2 ?_|(refine T6 ?_ ?_<;>intro h<;>try exact V1 h)|intro el ke kg|intro el ke|exact T4|refine T5 ?_ ?_|intro ex)<;>try conv=>whnf)
 all_goals first
  |exact A3 rfl (congrArg AV.i (by rw[if_neg (by assumption)]))
  |exact A3 rfl (congrArg AV.i (by rw[if_pos (Decidable.of_not_not (by assumption)),if_pos (by omega)]))
  |exact A3 rfl (congrArg AV.i (by rw[if_pos (Decidable.of_not_not (by assumption)),if_neg (by omega),if_pos (by omega)]))
  |exact A3 rfl (congrArg AV.i (by rw[if_pos (Decidable.of_not_not (by assumption)),if_neg (by omega),if_neg (by omega)]))
def aF(b:Bool):Int:=if b=true then 1 else -1
def jW(s:A5)(c:A1)(v:Int):Int :=
 if c.op=2 then aF (gZ (E2 s (C7 s c.col)).1 (E2 s (C7 s c.col)).2 v c.code)else if c.op=4 then aF (decide (v=(-1099511627776)))else if v=(-1099511627776)then 0 else aF (decide (c.lo≤v∧v≤c.hi))
mutual
def gl:A1→List A1
 |.mk o c k l h ks=>if o=2∨o=3∨o=4 then [.mk o c k l h ks]else gm ks
def gm:List A1→List A1
 |[]=>[]
 |x::r=>gl x++gm r
end
theorem gn(l:List (Pk))(f:Nat)(caps:List AV)(p:(Pk)→Bool)(hf:∀x∈l,A4 Tryz.prog f ((fun x=>.agg (N7 x)) x::caps) (.b (p x))):A4 Tryz.prog 109 [.sl 2 (l.map N7),.fn f caps] (.i (K6 p l 0)):=by
 refine D0 Tryz.func109 19 fun ki E h0=>?_
 have kf:l.length≤9223372036854775807:=by have:=(ki (.sl 2 (l.map N7)) (by simp)).sl;simpa using this
 repeat'((first|refine S2 ?_|(refine T6 ?_ ?_<;>intro h<;>try exact V1 h)|intro el ke kg|intro el ke|exact T4|refine T5 ?_ ?_|intro ex)<;>try conv=>whnf)
 refine D5 (ι:=Nat) (fun k=>⟨[(0,.sl 2 (l.map N7)),(1,.fn f caps),(7,.i l.length),(8,.i k)],0,[]⟩) (fun k=>k≤l.length∧K6 p l 0=K6 p (l.drop k) k) (fun k=>l.length-k) 0 ⟨Nat.zero_le _,rfl⟩ (B2 h0) (fun k hI=>?_)
 obtain⟨hk,hI⟩:=hI
 repeat'((first|refine A0 (hf _ (List.mem_of_getElem? ke)) ?_ |refine S2 ?_|(refine T6 ?_ ?_<;>intro h<;>try exact V1 h)|intro el ke kg|intro el ke|exact T4|refine T5 ?_ ?_|intro ex)<;>try conv=>whnf)
 all_goals first
  |exact⟨k+1,⟨by omega,by rw[hI,O6 ke,K6,if_neg (by simp[h])];rfl⟩,by omega,B2 h0⟩
  |exact A3 rfl (congrArg AV.i (by rw[hI,O6 ke,K6,if_pos (by simp[h])]))
  |exact A3 rfl (congrArg AV.i (by rw[hI,show k=l.length by omega,List.drop_length];rfl))
theorem gp(l:List (Pk))(f:Nat)(caps:List AV)(p:(Pk)→Bool)(hf:∀x∈l,A4 Tryz.prog f ((fun x=>.agg (N7 x)) x::caps) (.b (p x))):A4 Tryz.prog 65 [.sl 2 (l.map N7),.fn f caps] (.b (l.any p)):=by
 refine D0 Tryz.func65 9 fun ki E h0=>?_
 have mB:=gn l f caps p hf
 repeat'((first|refine A0 mB ?_ |refine S2 ?_|(refine T6 ?_ ?_<;>intro h<;>try exact V1 h)|intro el ke kg|intro el ke|exact T4|refine T5 ?_ ?_|intro ex)<;>try conv=>whnf)
 all_goals first
  |exact A3 rfl (congrArg AV.b (Ds p l 0 (by omega)))
theorem Gw(op:Int):(op=5∨op=6→X5 op=2)∧(op=7→X5 op=1)∧(op≠5→op≠6→op≠7→X5 op=0):=by
 unfold X5
 refine⟨fun h=>by rw[if_pos h],fun h=>by rw[if_neg (by omega),if_pos h],fun h1 h2 h3=>by rw[if_neg (by omega),if_neg h3]⟩
theorem gq{s:A5}{c:A1}(h:c.op<1∨7<c.op):L0 s c=4:=by unfold L0;rw[if_pos h]
theorem dt{s:A5}{c:A1}(h0:1≤c.op∧c.op≤7)(h:(c.kids.length:Int)≠X5 c.op∨¬(¬(c.op≠2∧c.op≠3∧c.op≠4∧c.col≠0)∧¬(c.op≠2∧c.code≠0)∧(c.op=3∨c.lo=0∧c.hi=0))):L0 s c=11:=by unfold L0;rw[if_neg (by omega),if_pos h]
theorem du{s:A5}{c:A1}(hp:(1≤c.op∧c.op≤7)∧(c.kids.length:Int)=X5 c.op∧¬(c.op≠2∧c.op≠3∧c.op≠4∧c.col≠0)∧¬(c.op≠2∧c.code≠0)∧(c.op=3∨c.lo=0∧c.hi=0))(h2:c.op=2)(h:¬(0≤c.col∧c.col<s.cols.length∧(C7 s c.col).kind=2)):L0 s c=7:=by
 unfold L0
 rw[if_neg (by omega),if_neg (by omega),if_neg (by omega)]
 by_cases h3:c.col<0∨(s.cols.length:Int)≤c.col
 ·rw[if_pos h3]
 ·rw[if_neg h3,if_pos h2,if_pos (by omega)]
theorem dv{s:A5}{c:A1}(hp:(1≤c.op∧c.op≤7)∧(c.kids.length:Int)=X5 c.op∧¬(c.op≠2∧c.op≠3∧c.op≠4∧c.col≠0)∧¬(c.op≠2∧c.code≠0)∧(c.op=3∨c.lo=0∧c.hi=0))(h2:c.op=3)(h:¬(0≤c.col∧c.col<s.cols.length∧(C7 s c.col).kind=3)):L0 s c=7:=by
 unfold L0
 rw[if_neg (by omega),if_neg (by omega),if_neg (by omega)]
 by_cases h3:c.col<0∨(s.cols.length:Int)≤c.col
 ·rw[if_pos h3]
 ·rw[if_neg h3,if_neg (by omega),if_pos h2,if_pos (by omega)]
theorem dz{s:A5}{c:A1}(hp:(1≤c.op∧c.op≤7)∧(c.kids.length:Int)=X5 c.op∧¬(c.op≠2∧c.op≠3∧c.op≠4∧c.col≠0)∧¬(c.op≠2∧c.code≠0)∧(c.op=3∨c.lo=0∧c.hi=0))(h2:c.op=4)(h:¬(0≤c.col∧c.col<s.cols.length∧(C7 s c.col).kind=3)):L0 s c=7:=by
 unfold L0
 rw[if_neg (by omega),if_neg (by omega),if_neg (by omega)]
 by_cases h3:c.col<0∨(s.cols.length:Int)≤c.col
 ·rw[if_pos h3]
 ·rw[if_neg h3,if_neg (by omega),if_neg (by omega),if_pos (by omega)]
theorem aG{s:A5}{c:A1}(hp:(1≤c.op∧c.op≤7)∧(c.kids.length:Int)=X5 c.op∧¬(c.op≠2∧c.op≠3∧c.op≠4∧c.col≠0)∧¬(c.op≠2∧c.code≠0)∧(c.op=3∨c.lo=0∧c.hi=0))(h2:c.op=4){x:H2}(hx:s.cols[c.col.toNat]?=some x)(h:x.opt=false):L0 s c=7:=by
 unfold L0
 rw[if_neg (by omega),if_neg (by omega),if_neg (by omega),D4 hx]
 by_cases h3:c.col<0∨(s.cols.length:Int)≤c.col
 ·rw[if_pos h3]
 ·rw[if_neg h3,if_neg (by omega),if_neg (by omega),if_pos (.inr h)]
theorem Xk{s:A5}{c:A1}(hp:(1≤c.op∧c.op≤7)∧(c.kids.length:Int)=X5 c.op∧¬(c.op≠2∧c.op≠3∧c.op≠4∧c.col≠0)∧¬(c.op≠2∧c.code≠0)∧(c.op=3∨c.lo=0∧c.hi=0))(h2:c.op=2)(h:0≤c.col∧c.col<s.cols.length∧(C7 s c.col).kind=2)(h3:c.code<0∨((E2 s (C7 s c.col)).2.length:Int)≤c.code):L0 s c=6:=by
 unfold L0
 rw[if_neg (by omega),if_neg (by omega),if_neg (by omega),if_neg (by omega),if_pos h2,if_neg (by omega),if_pos h3]
theorem gr{s:A5}{c:A1}(hp:(1≤c.op∧c.op≤7)∧(c.kids.length:Int)=X5 c.op∧¬(c.op≠2∧c.op≠3∧c.op≠4∧c.col≠0)∧¬(c.op≠2∧c.code≠0)∧(c.op=3∨c.lo=0∧c.hi=0))(h2:c.op=3)(h:0≤c.col∧c.col<s.cols.length∧(C7 s c.col).kind=3)(h3:c.hi<c.lo∨c.lo < -1000000∨1000000<c.hi):L0 s c=2:=by
 unfold L0
 rw[if_neg (by omega),if_neg (by omega),if_neg (by omega),if_neg (by omega),if_neg (by omega),if_pos h2,if_neg (by omega),if_pos h3]
theorem KA{s:A5}{c:A1}(hp:(1≤c.op∧c.op≤7)∧(c.kids.length:Int)=X5 c.op∧¬(c.op≠2∧c.op≠3∧c.op≠4∧c.col≠0)∧¬(c.op≠2∧c.code≠0)∧(c.op=3∨c.lo=0∧c.hi=0))(h2:c.op≠2∧c.op≠3∧c.op≠4):L0 s c=0:=by
 unfold L0
 rw[if_neg (by omega),if_neg (by omega),if_pos h2]
theorem UG{s:A5}{c:A1}(hp:(1≤c.op∧c.op≤7)∧(c.kids.length:Int)=X5 c.op∧¬(c.op≠2∧c.op≠3∧c.op≠4∧c.col≠0)∧¬(c.op≠2∧c.code≠0)∧(c.op=3∨c.lo=0∧c.hi=0))(h2:c.op=2)(h:0≤c.col∧c.col<s.cols.length∧(C7 s c.col).kind=2)(h3:¬(c.code<0∨((E2 s (C7 s c.col)).2.length:Int)≤c.code)):L0 s c=0:=by
 unfold L0
 rw[if_neg (by omega),if_neg (by omega),if_neg (by omega),if_neg (by omega),if_pos h2,if_neg (by omega),if_neg h3]
theorem UH{s:A5}{c:A1}(hp:(1≤c.op∧c.op≤7)∧(c.kids.length:Int)=X5 c.op∧¬(c.op≠2∧c.op≠3∧c.op≠4∧c.col≠0)∧¬(c.op≠2∧c.code≠0)∧(c.op=3∨c.lo=0∧c.hi=0))(h2:c.op=3)(h:0≤c.col∧c.col<s.cols.length∧(C7 s c.col).kind=3)(h3:¬(c.hi<c.lo∨c.lo < -1000000∨1000000<c.hi)):L0 s c=0:=by
 unfold L0
 rw[if_neg (by omega),if_neg (by omega),if_neg (by omega),if_neg (by omega),if_neg (by omega),if_pos h2,if_neg (by omega),if_neg h3]
theorem UI{s:A5}{c:A1}(hp:(1≤c.op∧c.op≤7)∧(c.kids.length:Int)=X5 c.op∧¬(c.op≠2∧c.op≠3∧c.op≠4∧c.col≠0)∧¬(c.op≠2∧c.code≠0)∧(c.op=3∨c.lo=0∧c.hi=0))(h2:c.op=4)(h:0≤c.col∧c.col<s.cols.length∧(C7 s c.col).kind=3){x:H2}(hx:s.cols[c.col.toNat]?=some x)(ho:x.opt=true):L0 s c=0:=by
 unfold L0
 rw[D4 hx]at *
 rw[if_neg (by omega),if_neg (by omega),if_neg (by omega),if_neg (by omega),if_neg (by omega),if_neg (by omega),if_neg (by rw[ho];intro h9;rcases h9 with h9|h9;exact h9 h.2.2;cases h9)]
end Go.Proofs.YtkcekccdcpmekaaGreatDoor

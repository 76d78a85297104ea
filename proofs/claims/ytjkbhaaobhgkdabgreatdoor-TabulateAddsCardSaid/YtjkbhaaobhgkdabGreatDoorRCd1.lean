/- Chapter 5: conditions, and which are right. -/
import Derived.Test.YtjkbhaaobhgkdabGreatDoorRB8
set_option linter.unusedVariables false
set_option linter.unnecessarySimpa false
set_option linter.unusedSimpArgs false
set_option maxHeartbeats 64000000
namespace Go.Proofs.YtjkbhaaobhgkdabGreatDoor
open Go Go.Av
attribute [local irreducible] D0 B0 D2 C7 DQ D1 C8 St.le A3 B6
set_option maxRecDepth 100000
inductive B1 where
 |mk (op col code lo hi:Int) (kids:List B1)
def B1.op:B1→Int|.mk o _ _ _ _ _=>o
def B1.col:B1→Int|.mk _ c _ _ _ _=>c
def B1.code:B1→Int|.mk _ _ k _ _ _=>k
def B1.lo:B1→Int|.mk _ _ _ l _ _=>l
def B1.hi:B1→Int|.mk _ _ _ _ h _=>h
def B1.kids:B1→List B1|.mk _ _ _ _ _ ks=>ks
mutual
def W8:B1→List AV
 |.mk o c k l h ks=>[.i o,.i c,.i k,.i l,.i h,.sl 6 (RY ks)]
def RY:List B1→List (List AV)
 |[]=>[]
 |x::r=>W8 x::RY r
end
theorem TC:∀ks,RY ks=ks.map W8
 |[]=>rfl
 |x::r=>by rw[RY,TC r];rfl
def K2(c:B1):List AV:=[.i c.op,.i c.col,.i c.code,.i c.lo,.i c.hi,.sl 6 (c.kids.map W8)]
theorem Ka(c:B1):W8 c=K2 c:=by
 cases c
 rw[W8,TC];rfl
theorem On(ks:List B1):ks.map W8=ks.map K2:=List.map_congr_left fun c _=>Ka c
abbrev E7(c:B1):AV:=.agg (K2 c)
abbrev O4(c:B1):List AV:=[.i c.op,.i c.col,.i c.code,.i c.lo,.i c.hi,.sl 6 (c.kids.map K2)]
theorem F8(c:B1):E7 c=.agg (O4 c):=by
 show AV.agg [.i c.op,.i c.col,.i c.code,.i c.lo,.i c.hi,.sl 6 (c.kids.map W8)]=_
 rw[On]
theorem YH{c k:B1}(h:k∈c.kids):SizeOf.sizeOf k<SizeOf.sizeOf c:=by
 cases c with
 |mk o c k l h' ks =>
  have:=List.sizeOf_lt_of_mem (show _∈ks from h)
  simp only[B1.mk.sizeOf_spec]
  omega
theorem N9{p:B1→Prop}(h:∀c,(∀k∈c.kids,p k)→p c)(c:B1):p c :=
 h c fun k _=>N9 h k
termination_by SizeOf.sizeOf c
decreasing_by exact YH (by assumption)
mutual
def AJ:B1→Int→Int
 |.mk _ _ _ _ _ ks,most=>AK ks most 1
def AK:List B1→Int→Int→Int
 |[],_,n=>n
 |x::r,most,n=>if most<n then n else AK r most (n+AJ x (most-n))
end
theorem Oo(c:B1)(m:Int):AJ c m=AK c.kids m 1:=by cases c;rfl
theorem Kb(c:B1):∀m:Int,1≤AJ c m∧AJ c m≤max 1 (m+1):=by
 refine N9 (p:=fun c=>∀m:Int,1≤AJ c m∧AJ c m≤max 1 (m+1)) (fun c ih m=>?_) c
 have key:∀(l:List B1),(∀k∈l,k∈c.kids)→∀n:Int,1≤n→n≤max 1 (m+1)→1≤AK l m n∧AK l m n≤max 1 (m+1):=by
  intro l
  induction l with
  |nil=>intro _ n h1 h2;exact⟨h1,h2⟩
  |cons x r sJ =>
   intro hl n h1 h2
   unfold AK
   split
   ·exact⟨h1,h2⟩
   ·have:=ih x (hl x (by simp)) (m-n)
    exact sJ (fun k hk=>hl k (by simp[hk])) _ (by omega) (by omega)
 rw[Oo]
 exact key c.kids (fun k hk=>hk) 1 (by omega) (by omega)
mutual
def R7:B1→Nat
 |.mk _ _ _ _ _ ks=>W9 ks 0+1
def W9:List B1→Nat→Nat
 |[],n=>n
 |x::r,n=>W9 r (max n (R7 x))
end
theorem Gt(c:B1):R7 c=W9 c.kids 0+1:=by cases c;rfl
theorem Oq:∀(l:List B1) (n:Nat),n≤W9 l n∧∀k∈l,R7 k≤W9 l n
 |[],n=>⟨Nat.le_refl _,fun k hk=>by cases hk⟩
 |x::r,n=>by
  obtain⟨h1,h2⟩:=Oq r (max n (R7 x))
  unfold W9
  refine⟨by omega,fun k hk=>?_⟩
  rcases List.mem_cons.1 hk with rfl|hk
  ·omega
  ·exact h2 k hk
theorem VR(c:B1):∀(m:Int),-100000≤m→m≤100000→A3 Tryz.prog 135 [E7 c,.i m] (.i (AJ c m)):=by
 refine N9 (p:=fun c=>∀(m:Int),-100000≤m→m≤100000→A3 Tryz.prog 135 [E7 c,.i m] (.i (AJ c m))) (fun c ih m hm1 qt=>?_) c
 rw[F8,Oo]
 refine C0 Tryz.func135 27 fun nQ E h0=>?_
 have nO:c.kids.length≤9223372036854775807:=by
  have:=((nQ _ (List.mem_cons_self ..)).agg (.sl 6 (c.kids.map K2)) (by simp)).sl
  simpa using this
 clear nQ
 repeat'((first|refine S2 ?_|(refine T6 ?_ ?_<;>intro h<;>try exact V1 h)|intro el nN nP|intro el nN|exact T4|refine T5 ?_ ?_|intro ex)<;>try conv=>whnf)
 refine B2 (ι:=Nat×Int) (fun x=>⟨[(1,.i m),(5,.i x.2),(9,.sl 6 (c.kids.map K2)),(10,.i c.kids.length),(11,.i x.1)],1,[(0,some (.box (O4 c)))]⟩) (fun x=>x.1≤c.kids.length∧(1≤x.2∧x.2≤max 1 (m+1))∧AK c.kids m 1=AK (c.kids.drop x.1) m x.2) (fun x=>c.kids.length-x.1) (0,1) ⟨Nat.zero_le _,by dsimp only;omega,rfl⟩
  (A6 h0) (fun x hI=>?_)
 obtain⟨k,n⟩:=x
 obtain⟨hk,hn,hI⟩:=hI
 dsimp only at hk hn hI ⊢
 repeat'((first|(refine A1 (ih _ (List.mem_of_getElem? (by assumption)) _ (by omega) (by omega)) ?_)|(refine J4 ?_ ?_;(have:=Kb el (m-n);omega)) |refine S2 ?_|(refine T6 ?_ ?_<;>intro h<;>try exact V1 h)|intro el nN nP|intro el nN|exact T4|refine T5 ?_ ?_|intro ex)<;>try conv=>whnf)
 all_goals first
  |exact A0 rfl (congrArg AV.i (by rw[hI,G6 nN,AK,if_pos (by assumption)]))
  |exact A0 rfl (congrArg AV.i (by rw[hI,W4 (by assumption)];rfl))
  |exact⟨(k+1,n+AJ el (m-n)),⟨by dsimp only;omega,(by have:=Kb el (m-n);dsimp only;omega),by rw[hI,G6 nN,AK,if_neg (by assumption)]⟩,by dsimp only;omega,A6 h0⟩
theorem YI(c:B1):R7 c≤100000→A3 Tryz.prog 136 [E7 c] (.i (R7 c)):=by
 refine N9 (p:=fun c=>R7 c≤100000→A3 Tryz.prog 136 [E7 c] (.i (R7 c))) (fun c ih hd=>?_) c
 rw[F8,Gt]at *
 have px:=Oq c.kids 0
 refine C0 Tryz.func136 20 fun nQ E h0=>?_
 have nO:c.kids.length≤9223372036854775807:=by
  have:=((nQ _ (List.mem_cons_self ..)).agg (.sl 6 (c.kids.map K2)) (by simp)).sl
  simpa using this
 clear nQ
 repeat'((first|refine S2 ?_|(refine T6 ?_ ?_<;>intro h<;>try exact V1 h)|intro el nN nP|intro el nN|exact T4|refine T5 ?_ ?_|intro ex)<;>try conv=>whnf)
 refine B2 (ι:=Nat×Nat) (fun x=>⟨[(3,.i x.2),(7,.sl 6 (c.kids.map K2)),(8,.i c.kids.length),(9,.i x.1)],1,[(0,some (.box (O4 c)))]⟩) (fun x=>x.1≤c.kids.length∧x.2≤W9 c.kids 0∧W9 c.kids 0=W9 (c.kids.drop x.1) x.2) (fun x=>c.kids.length-x.1) (0,0) ⟨Nat.zero_le _,Nat.zero_le _,rfl⟩
  (A6 h0) (fun x hI=>?_)
 obtain⟨k,n⟩:=x
 obtain⟨hk,hn,hI⟩:=hI
 dsimp only at hk hn hI ⊢
 have wQ:∀el,c.kids[k]?=some el→R7 el≤W9 c.kids 0:=fun el nN=>px.2 el (List.mem_of_getElem? nN)
 repeat'((first|(refine A1 (ih _ (List.mem_of_getElem? (by assumption)) (by have:=wQ el nN;omega)) ?_) |refine S2 ?_|(refine T6 ?_ ?_<;>intro h<;>try exact V1 h)|intro el nN nP|intro el nN|exact T4|refine T5 ?_ ?_|intro ex)<;>try conv=>whnf)
 all_goals first
  |exact A0 rfl (congrArg AV.i (by rw[hI,W4 (by assumption)];unfold W9;omega))
  |exact⟨(k+1,max n (R7 el)),⟨by dsimp only;omega,(by have:=wQ el nN;dsimp only;omega),by rw[hI,G6 nN,W9]⟩,by dsimp only;omega,A8 h0 rfl ⟨congrArg (fun z:Int=>some (AV.i z)) (by dsimp only;omega),rfl,rfl,rfl,trivial⟩ ⟨rfl,trivial⟩ rfl rfl rfl⟩
def U0(op:Int):Int:=if op=5∨op=6 then 2 else if op=7 then 1 else 0
theorem YJ(op:Int):A3 Tryz.prog 201 [.i op] (.i (U0 op)):=by
 refine C0 Tryz.func201 9 fun nQ E h0=>?_
 clear nQ
 repeat'((first|refine S2 ?_|(refine T6 ?_ ?_<;>intro h<;>try exact V1 h)|intro el nN nP|intro el nN|exact T4|refine T5 ?_ ?_|intro ex)<;>try conv=>whnf)
 all_goals first
  |exact A0 rfl (congrArg AV.i (by unfold U0;rw[if_pos (by omega)]))
  |exact A0 rfl (congrArg AV.i (by unfold U0;rw[if_neg (by omega),if_pos (by omega)]))
  |exact A0 rfl (congrArg AV.i (by unfold U0;rw[if_neg (by omega),if_neg (by omega)]))
abbrev YK(c:B1):Bool:=decide (¬(c.op≠2∧c.op≠3∧c.op≠4∧c.col≠0)∧¬(c.op≠2∧c.code≠0)∧(c.op=3∨c.lo=0∧c.hi=0))
theorem TD(c:B1):A3 Tryz.prog 202 [E7 c] (.b (YK c)):=by
 rw[F8]
 refine C0 Tryz.func202 46 fun nQ E h0=>?_
 clear nQ
 repeat'((first|refine S2 ?_|(refine T6 ?_ ?_<;>intro h<;>try exact V1 h)|intro el nN nP|intro el nN|exact T4|refine T5 ?_ ?_|intro ex)<;>try conv=>whnf)
 all_goals first
  |exact A0 rfl (congrArg AV.b (by unfold YK;rw[decide_eq_true (by omega)]))
  |exact A0 rfl (congrArg AV.b (by unfold YK;rw[decide_eq_false (by omega)]))
  |exact A0 rfl (congrArg AV.b (by unfold YK;rw[decide_eq_decide];omega))
end Go.Proofs.YtjkbhaaobhgkdabGreatDoor

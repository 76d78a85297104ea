/- Chapter 5: conditions, and which are right. -/
import Derived.Test.YtiphlhoclaogjaaGreatDoorSB8
set_option linter.unusedVariables false
set_option linter.unnecessarySimpa false
set_option linter.unusedSimpArgs false
set_option maxHeartbeats 64000000
namespace Go.Proofs.YtiphlhoclaogjaaGreatDoor
open Go Go.Av
attribute [local irreducible] C7 B2 D3 C9 DQ D0 C8 St.le A3 B9
set_option maxRecDepth 100000
inductive B1 where
 |mk (op col code lo hi:Int) (kids:List B1)
def B1.op:B1→Int|.mk o _ _ _ _ _=>o
def B1.col:B1→Int|.mk _ c _ _ _ _=>c
def B1.code:B1→Int|.mk _ _ k _ _ _=>k
def B1.lo:B1→Int|.mk _ _ _ l _ _=>l
def B1.hi:B1→Int|.mk _ _ _ _ h _=>h
def B1.kids:B1→List B1|.mk _ _ _ _ _ ks=>ks
mutual
def L0:B1→List AV
 |.mk o c k l h ks=>[.i o,.i c,.i k,.i l,.i h,.sl 6 (RN ks)]
def RN:List B1→List (List AV)
 |[]=>[]
 |x::r=>L0 x::RN r
end
theorem Sq:∀ks,RN ks=ks.map L0
 |[]=>rfl
 |x::r=>by rw[RN,Sq r];rfl
def I6(c:B1):List AV:=[.i c.op,.i c.col,.i c.code,.i c.lo,.i c.hi,.sl 6 (c.kids.map L0)]
theorem Gq(c:B1):L0 c=I6 c:=by
 cases c
 rw[L0,Sq];rfl
theorem Oi(ks:List B1):ks.map L0=ks.map I6:=List.map_congr_left fun c _=>Gq c
abbrev E0(c:B1):AV:=.agg (I6 c)
abbrev M8(c:B1):List AV:=[.i c.op,.i c.col,.i c.code,.i c.lo,.i c.hi,.sl 6 (c.kids.map I6)]
theorem F7(c:B1):E0 c=.agg (M8 c):=by
 show AV.agg [.i c.op,.i c.col,.i c.code,.i c.lo,.i c.hi,.sl 6 (c.kids.map L0)]=_
 rw[Oi]
theorem Xb{c k:B1}(h:k∈c.kids):SizeOf.sizeOf k<SizeOf.sizeOf c:=by
 cases c with
 |mk o c k l h' ks =>
  have:=List.sizeOf_lt_of_mem (show _∈ks from h)
  simp only[B1.mk.sizeOf_spec]
  omega
theorem N1{p:B1→Prop}(h:∀c,(∀k∈c.kids,p k)→p c)(c:B1):p c :=
 h c fun k _=>N1 h k
termination_by SizeOf.sizeOf c
decreasing_by exact Xb (by assumption)
mutual
def Ak:B1→Int→Int
 |.mk _ _ _ _ _ ks,most=>Al ks most 1
def Al:List B1→Int→Int→Int
 |[],_,n=>n
 |x::r,most,n=>if most<n then n else Al r most (n+Ak x (most-n))
end
theorem Oj(c:B1)(m:Int):Ak c m=Al c.kids m 1:=by cases c;rfl
theorem KP(c:B1):∀m:Int,1≤Ak c m∧Ak c m≤max 1 (m+1):=by
 refine N1 (p:=fun c=>∀m:Int,1≤Ak c m∧Ak c m≤max 1 (m+1)) (fun c ih m=>?_) c
 have key:∀(l:List B1),(∀k∈l,k∈c.kids)→∀n:Int,1≤n→n≤max 1 (m+1)→1≤Al l m n∧Al l m n≤max 1 (m+1):=by
  intro l
  induction l with
  |nil=>intro _ n h1 h2;exact⟨h1,h2⟩
  |cons x r qZ =>
   intro hl n h1 h2
   unfold Al
   split
   ·exact⟨h1,h2⟩
   ·have:=ih x (hl x (by simp)) (m-n)
    exact qZ (fun k hk=>hl k (by simp[hk])) _ (by omega) (by omega)
 rw[Oj]
 exact key c.kids (fun k hk=>hk) 1 (by omega) (by omega)
mutual
def Y9:B1→Nat
 |.mk _ _ _ _ _ ks=>p8 ks 0+1
def p8:List B1→Nat→Nat
 |[],n=>n
 |x::r,n=>p8 r (max n (Y9 x))
end
theorem KQ(c:B1):Y9 c=p8 c.kids 0+1:=by cases c;rfl
theorem Ok:∀(l:List B1) (n:Nat),n≤p8 l n∧∀k∈l,Y9 k≤p8 l n
 |[],n=>⟨Nat.le_refl _,fun k hk=>by cases hk⟩
 |x::r,n=>by
  obtain⟨h1,h2⟩:=Ok r (max n (Y9 x))
  unfold p8
  refine⟨by omega,fun k hk=>?_⟩
  rcases List.mem_cons.1 hk with rfl|hk
  ·omega
  ·exact h2 k hk
theorem Ux(c:B1):∀(m:Int),-100000≤m→m≤100000→A3 Tryz.prog 177 [E0 c,.i m] (.i (Ak c m)):=by
 refine N1 (p:=fun c=>∀(m:Int),-100000≤m→m≤100000→A3 Tryz.prog 177 [E0 c,.i m] (.i (Ak c m))) (fun c ih m hm1 pP=>?_) c
 rw[F7,Oj]
 refine B6 Tryz.func177 27 fun lW E h0=>?_
 have lX:c.kids.length≤9223372036854775807:=by
  have:=((lW _ (List.mem_cons_self ..)).agg (.sl 6 (c.kids.map I6)) (by simp)).sl
  simpa using this
 clear lW
 repeat'((first|refine S2 ?_|(refine T6 ?_ ?_<;>intro h<;>try exact V1 h)|intro el lU lV|intro el lU|exact T4|refine T5 ?_ ?_|intro ex)<;>try conv=>whnf)
 refine B0 (ι:=Nat×Int) (fun x=>⟨[(1,.i m),(5,.i x.2),(9,.sl 6 (c.kids.map I6)),(10,.i c.kids.length),(11,.i x.1)],1,[(0,some (.box (M8 c)))]⟩) (fun x=>x.1≤c.kids.length∧(1≤x.2∧x.2≤max 1 (m+1))∧Al c.kids m 1=Al (c.kids.drop x.1) m x.2) (fun x=>c.kids.length-x.1) (0,1) ⟨Nat.zero_le _,by dsimp only;omega,rfl⟩
  (A6 h0) (fun x hI=>?_)
 obtain⟨k,n⟩:=x
 obtain⟨hk,hn,hI⟩:=hI
 dsimp only at hk hn hI ⊢
 repeat'((first|(refine A1 (ih _ (List.mem_of_getElem? (by assumption)) _ (by omega) (by omega)) ?_)|(refine I4 ?_ ?_;(have:=KP el (m-n);omega)) |refine S2 ?_|(refine T6 ?_ ?_<;>intro h<;>try exact V1 h)|intro el lU lV|intro el lU|exact T4|refine T5 ?_ ?_|intro ex)<;>try conv=>whnf)
 all_goals first
  |exact A0 rfl (congrArg AV.i (by rw[hI,G3 lU,Al,if_pos (by assumption)]))
  |exact A0 rfl (congrArg AV.i (by rw[hI,S6 (by assumption)];rfl))
  |exact⟨(k+1,n+Ak el (m-n)),⟨by dsimp only;omega,(by have:=KP el (m-n);dsimp only;omega),by rw[hI,G3 lU,Al,if_neg (by assumption)]⟩,by dsimp only;omega,A6 h0⟩
theorem Xd(c:B1):Y9 c≤100000→A3 Tryz.prog 178 [E0 c] (.i (Y9 c)):=by
 refine N1 (p:=fun c=>Y9 c≤100000→A3 Tryz.prog 178 [E0 c] (.i (Y9 c))) (fun c ih hd=>?_) c
 rw[F7,KQ]at *
 have oM:=Ok c.kids 0
 refine B6 Tryz.func178 20 fun lW E h0=>?_
 have lX:c.kids.length≤9223372036854775807:=by
  have:=((lW _ (List.mem_cons_self ..)).agg (.sl 6 (c.kids.map I6)) (by simp)).sl
  simpa using this
 clear lW
 repeat'((first|refine S2 ?_|(refine T6 ?_ ?_<;>intro h<;>try exact V1 h)|intro el lU lV|intro el lU|exact T4|refine T5 ?_ ?_|intro ex)<;>try conv=>whnf)
 refine B0 (ι:=Nat×Nat) (fun x=>⟨[(3,.i x.2),(7,.sl 6 (c.kids.map I6)),(8,.i c.kids.length),(9,.i x.1)],1,[(0,some (.box (M8 c)))]⟩) (fun x=>x.1≤c.kids.length∧x.2≤p8 c.kids 0∧p8 c.kids 0=p8 (c.kids.drop x.1) x.2) (fun x=>c.kids.length-x.1) (0,0) ⟨Nat.zero_le _,Nat.zero_le _,rfl⟩
  (A6 h0) (fun x hI=>?_)
 obtain⟨k,n⟩:=x
 obtain⟨hk,hn,hI⟩:=hI
 dsimp only at hk hn hI ⊢
 have ug:∀el,c.kids[k]?=some el→Y9 el≤p8 c.kids 0:=fun el lU=>oM.2 el (List.mem_of_getElem? lU)
 repeat'((first|(refine A1 (ih _ (List.mem_of_getElem? (by assumption)) (by have:=ug el lU;omega)) ?_) |refine S2 ?_|(refine T6 ?_ ?_<;>intro h<;>try exact V1 h)|intro el lU lV|intro el lU|exact T4|refine T5 ?_ ?_|intro ex)<;>try conv=>whnf)
 all_goals first
  |exact A0 rfl (congrArg AV.i (by rw[hI,S6 (by assumption)];unfold p8;omega))
  |exact⟨(k+1,max n (Y9 el)),⟨by dsimp only;omega,(by have:=ug el lU;dsimp only;omega),by rw[hI,G3 lU,p8]⟩,by dsimp only;omega,A9 h0 rfl ⟨congrArg (fun z:Int=>some (AV.i z)) (by dsimp only;omega),rfl,rfl,rfl,trivial⟩ ⟨rfl,trivial⟩ rfl rfl rfl⟩
def p9(op:Int):Int:=if op=5∨op=6 then 2 else if op=7 then 1 else 0
theorem Xe(op:Int):A3 Tryz.prog 239 [.i op] (.i (p9 op)):=by
 refine B6 Tryz.func239 9 fun lW E h0=>?_
 clear lW
 repeat'((first|refine S2 ?_|(refine T6 ?_ ?_<;>intro h<;>try exact V1 h)|intro el lU lV|intro el lU|exact T4|refine T5 ?_ ?_|intro ex)<;>try conv=>whnf)
 all_goals first
  |exact A0 rfl (congrArg AV.i (by unfold p9;rw[if_pos (by omega)]))
  |exact A0 rfl (congrArg AV.i (by unfold p9;rw[if_neg (by omega),if_pos (by omega)]))
  |exact A0 rfl (congrArg AV.i (by unfold p9;rw[if_neg (by omega),if_neg (by omega)]))
abbrev Xf(c:B1):Bool:=decide (¬(c.op≠2∧c.op≠3∧c.op≠4∧c.col≠0)∧¬(c.op≠2∧c.code≠0)∧(c.op=3∨c.lo=0∧c.hi=0))
theorem Sr(c:B1):A3 Tryz.prog 240 [E0 c] (.b (Xf c)):=by
 rw[F7]
 refine B6 Tryz.func240 46 fun lW E h0=>?_
 clear lW
 repeat'((first|refine S2 ?_|(refine T6 ?_ ?_<;>intro h<;>try exact V1 h)|intro el lU lV|intro el lU|exact T4|refine T5 ?_ ?_|intro ex)<;>try conv=>whnf)
 all_goals first
  |exact A0 rfl (congrArg AV.b (by unfold Xf;rw[decide_eq_true (by omega)]))
  |exact A0 rfl (congrArg AV.b (by unfold Xf;rw[decide_eq_false (by omega)]))
  |exact A0 rfl (congrArg AV.b (by unfold Xf;rw[decide_eq_decide];omega))
end Go.Proofs.YtiphlhoclaogjaaGreatDoor

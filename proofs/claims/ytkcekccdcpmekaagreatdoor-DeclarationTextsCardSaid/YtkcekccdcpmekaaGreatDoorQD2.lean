/- Chapter 5: drawn conditions are right. Chapter 5: conditions out of others: what they need, and their truth values. Chapter 5: values that have a value at a level, and truth values from coarse values. Draws: drawn rows fit. -/
import Derived.Test.YtkcekccdcpmekaaGreatDoorQC3
import Derived.Test.YtkcekccdcpmekaaGreatDoorQC1
import Derived.Test.YtkcekccdcpmekaaGreatDoorQSx
set_option linter.unusedVariables false
set_option linter.unnecessarySimpa false
set_option linter.unusedSimpArgs false
set_option maxHeartbeats 64000000
namespace Go.Proofs.YtkcekccdcpmekaaGreatDoor
open Go Go.Av
attribute [local irreducible] E8 B5 E5 E1 DQ E7 E9 St.le A4 A9
set_option maxRecDepth 100000
theorem Om{s:A5}{c:A1}(h:L0 s c=0)(hk:c.kids=[]):j7 s c=0∧J0 c=1∧Q2 c=1:=by
 rw[FI,if_pos h,BK,Dw,hk]
 exact⟨rfl,rfl,rfl⟩
theorem RZ(s:A5):L0 s (.mk 1 0 0 0 0 [])=0 :=
 KA (by simp[A1.op,A1.col,A1.code,A1.lo,A1.hi,A1.kids,X5]) (by simp[A1.op])
theorem Ra{s:A5}(hd:F7 s)(l:List UInt8)(a:Nat):L0 s (CX l s a).1=0∧(CX l s a).1.kids=[]:=by
 unfold CX
 dsimp only
 generalize B8 l a 5=q
 have h2:=(BL (l:=l) (a:=q.2) hd.two.1).2
 have h3:=(BL (l:=l) (a:=q.2) hd.two.2).2
 generalize AN l q.2 s 2=k at *
 generalize AN l q.2 s 3=m at *
 obtain⟨k1,k2⟩:=k
 obtain⟨m1,m2⟩:=m
 dsimp only at h2 h3 ⊢
 obtain⟨x,hx⟩:∃x,s.cols[m1]?=some x:=⟨_,List.getElem?_eq_getElem h3.1⟩
 have pK:C7 s m1=x:=D4 (by simpa using hx)
 have wN:-4≤x.low∧x.low≤2:=by
  rw[pK]at h3
  rcases hd.col hx with ⟨_,rfl⟩|⟨_,rfl|rfl⟩|⟨_,nm,hm⟩
  ·cases h3.2
  ·cases h3.2
  ·cases h3.2
  ·exact hm.low
 split
 ·refine⟨?_,rfl⟩
  obtain⟨c,hc⟩:∃c,s.cols[k1]?=some c:=⟨_,List.getElem?_eq_getElem h2.1⟩
  have nK:C7 s k1=c:=D4 (by simpa using hc)
  have lk:1≤(E2 s (C7 s k1)).2.length:=by
   rw[nK]at h2 ⊢
   obtain⟨_,e,h5,_⟩:=hd.lvs hc h2.2
   rw[e]at h5
   have:=Vj (E2 s c).1 (E2 s c).2 (H3 (E2 s c).1 (E2 s c).2-1)
   omega
  have hn:=I7 l k2 (n:=(E2 s (C7 s k1)).2.length) (by omega)
  refine UG (by simp[A1.op,A1.col,A1.code,A1.lo,A1.hi,A1.kids,X5]) rfl ⟨?_,?_,?_⟩ ?_
  ·show (0:Int)≤(k1:Int);omega
  ·show (k1:Int)<s.cols.length;omega
  ·exact h2.2
  ·show ¬(((B8 l k2 (E2 s (C7 s k1)).2.length).1:Int)<0∨((E2 s (C7 s k1)).2.length:Int)≤((B8 l k2 (E2 s (C7 s k1)).2.length).1:Int))
   omega
 ·split
  ·refine⟨?_,rfl⟩
   have uD:=I7 l m2 (n:=44) (by omega)
   have uG:=I7 l (B8 l m2 44).2 (n:=30) (by omega)
   rw[pK]
   refine UH (by simp[A1.op,A1.col,A1.code,A1.lo,A1.hi,A1.kids,X5]) rfl ⟨?_,?_,?_⟩ ?_
   ·show (0:Int)≤(m1:Int);omega
   ·show (m1:Int)<s.cols.length;omega
   ·exact h3.2
   ·show ¬(x.low+(-3+((B8 l m2 44).1:Int))+((B8 l (B8 l m2 44).2 30).1:Int)<x.low+(-3+((B8 l m2 44).1:Int))∨x.low+(-3+((B8 l m2 44).1:Int)) < -1000000∨1000000<x.low+(-3+((B8 l m2 44).1:Int))+((B8 l (B8 l m2 44).2 30).1:Int))
    omega
  ·split
   ·split
    ·refine⟨?_,rfl⟩
     rename_i ho
     rw[pK]at ho
     refine UI (x:=x) (by simp[A1.op,A1.col,A1.code,A1.lo,A1.hi,A1.kids,X5]) rfl ⟨?_,?_,?_⟩ ?_ ho
     ·show (0:Int)≤(m1:Int);omega
     ·show (m1:Int)<s.cols.length;omega
     ·exact h3.2
     ·show s.cols[((m1:Nat):Int).toNat]?=some x
      rw[Int.toNat_natCast];exact hx
    ·exact⟨RZ s,rfl⟩
   ·exact⟨RZ s,rfl⟩
theorem Dz{s:A5}(hd:F7 s)(l:List UInt8):∀d a,j7 s (L9 l s d a).1=0∧J0 (L9 l s d a).1+1≤2 ^ (d+1)∧Q2 (L9 l s d a).1≤d+1
 |0,a=>by
  obtain⟨h1,h2⟩:=Ra hd l a
  obtain⟨h3,h4,h5⟩:=Om h1 h2
  show j7 s (CX l s a).1=0∧_
  exact⟨h3,by show J0 (CX l s a).1+1≤_;rw[h4];decide,by show Q2 (CX l s a).1≤_;omega⟩
 |d+1,a=>by
  have hp:2 ^ (d+1+1)=2*2 ^ (d+1):=by rw[Nat.pow_succ];omega
  have kq:2≤2 ^ (d+1):=by rw[Nat.pow_succ];have:=Nat.one_le_two_pow (n:=d);omega
  unfold L9
  dsimp only
  generalize B8 l a 5=q
  obtain⟨x1,x2,x3⟩:=Dz hd l d q.2
  generalize L9 l s d q.2=x at *
  obtain⟨y1,y2,y3⟩:=Dz hd l d x.2
  generalize L9 l s d x.2=y at *
  have two:∀o:Int,o=5∨o=6→L0 s (.mk o 0 0 0 0 [x.1,y.1])=0:=by
   intro o ho
   refine KA ?_ ?_
   ·rcases ho with rfl|rfl<;>simp[A1.op,A1.col,A1.code,A1.lo,A1.hi,A1.kids,X5]
   ·rcases ho with rfl|rfl<;>simp[A1.op]
  have sU:∀o:Int,o=5∨o=6→j7 s (.mk o 0 0 0 0 [x.1,y.1])=0∧J0 (.mk o 0 0 0 0 [x.1,y.1])+1≤2 ^ (d+1+1)∧Q2 (.mk o 0 0 0 0 [x.1,y.1])≤d+1+1:=by
   intro o ho
   rw[FI,if_pos (two o ho)]
   refine⟨?_,?_,?_⟩
   ·show q9 s [x.1,y.1]=0
    simp[q9,x1,y1]
   ·show Z9 [x.1,y.1]+1+1≤_
    simp only[Z9];omega
   ·show W0 [x.1,y.1] 0+1≤_
    simp only[W0];omega
  split
  ·have h7:L0 s (.mk 7 0 0 0 0 [x.1])=0:=KA (by simp[A1.op,A1.col,A1.code,A1.lo,A1.hi,A1.kids,X5]) (by simp[A1.op])
   dsimp only
   rw[FI,if_pos h7]
   refine⟨?_,?_,?_⟩
   ·show q9 s [x.1]=0
    simp[q9,x1]
   ·show Z9 [x.1]+1+1≤_
    simp only[Z9];omega
   ·show W0 [x.1] 0+1≤_
    simp only[W0];omega
  ·split
   ·exact sU 5 (.inl rfl)
   ·split
    ·exact sU 6 (.inr rfl)
    ·obtain⟨h1,h2⟩:=Ra hd l q.2
     obtain⟨h3,h4,h5⟩:=Om h1 h2
     exact⟨h3,by rw[h4];omega,by omega⟩
theorem Ht{s:A5}(hd:F7 s)(l:List UInt8)(d a:Nat)(h:d≤4):G6 s (L9 l s d a).1=0∧J0 (L9 l s d a).1≤31:=by
 obtain⟨h1,h2,h3⟩:=Dz hd l d a
 have hp:2 ^ (d+1)≤2 ^ 5:=Nat.pow_le_pow_right (by omega) (by omega)
 have nZ:2 ^ 5=32:=by decide
 unfold G6
 rw[if_pos hd.ok,if_neg (by omega),if_neg (by omega)]
 exact⟨h1,by omega⟩
theorem UQ(o:Int)(x y:A1):J0 (.mk o 0 0 0 0 [x,y])=J0 x+J0 y+1∧Q2 (.mk o 0 0 0 0 [x,y])=max (Q2 x) (Q2 y)+1:=by
 constructor
 ·show Z9 [x,y]+1=_
  simp only[Z9];omega
 ·show W0 [x,y] 0+1=_
  simp only[W0];omega
theorem UR(o:Int)(x:A1):J0 (.mk o 0 0 0 0 [x])=J0 x+1∧Q2 (.mk o 0 0 0 0 [x])=Q2 x+1:=by
 constructor
 ·show Z9 [x]+1=_
  simp only[Z9]<;>omega
 ·show W0 [x] 0+1=_
  simp only[W0]<;>omega
end Go.Proofs.YtkcekccdcpmekaaGreatDoor

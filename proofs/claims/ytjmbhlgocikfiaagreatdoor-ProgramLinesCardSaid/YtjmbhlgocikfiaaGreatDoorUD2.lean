/- Chapter 5: drawn conditions are right. Chapter 5: conditions out of others: what they need, and their truth values. Chapter 5: values that have a value at a level, and truth values from coarse values. Draws: drawn rows fit. -/
import Derived.Test.YtjmbhlgocikfiaaGreatDoorUC3
import Derived.Test.YtjmbhlgocikfiaaGreatDoorUCe1
import Derived.Test.YtjmbhlgocikfiaaGreatDoorUSx
import Derived.Test.YtjmbhlgocikfiaaGreatDoorUCE
set_option linter.unusedVariables false
set_option linter.unnecessarySimpa false
set_option linter.unusedSimpArgs false
namespace Go.Proofs.YtjmbhlgocikfiaaGreatDoor
open Go Go.Av
attribute [local irreducible] AWp AOps AAny MAny DQ retQ retG St.le FCall GCall
set_option maxRecDepth 100000
theorem chkS_leaf {s:Sch} {c:Cnd} (h:conE s c = 0) (hk:c.kids = []):chkS s c = 0 ∧ totS c = 1 ∧ depS c = 1:=by
 rw [chkS_eq,if_pos h,totS_eq,depS_eq,hk]
 exact ⟨rfl,rfl,rfl⟩
theorem conE_all (s:Sch):conE s (.mk 1 0 0 0 0 []) = 0 :=
 conE_01 (by simp [Cnd.op,Cnd.col,Cnd.code,Cnd.lo,Cnd.hi,Cnd.kids,kidN]) (by simp [Cnd.op])
theorem condL_ok {s:Sch} (hd:Drawn s) (l:List UInt8) (a:Nat):conE s (condL l s a).1 = 0 ∧ (condL l s a).1.kids = []:=by
 unfold condL
 dsimp only
 generalize nxt l a 5 = q
 have h2:=(colD_ok (l:=l) (a:=q.2) hd.two.1).2
 have h3:=(colD_ok (l:=l) (a:=q.2) hd.two.2).2
 generalize colD l q.2 s 2 = k at *
 generalize colD l q.2 s 3 = m at *
 obtain ⟨k1,k2⟩:=k
 obtain ⟨m1,m2⟩:=m
 dsimp only at h2 h3 ⊢
 obtain ⟨x,hx⟩:∃ x,s.cols[m1]? = some x:=⟨_,List.getElem?_eq_getElem h3.1⟩
 have hxa:colAt s m1 = x:=colAt_get (by simpa using hx)
 have hxb:-4 ≤ x.low ∧ x.low ≤ 2:=by
  rw [hxa] at h3
  rcases hd.col hx with ⟨_,rfl⟩ | ⟨_,rfl | rfl⟩ | ⟨_,nm,hm⟩
  ·cases h3.2
  ·cases h3.2
  ·cases h3.2
  ·exact hm.low
 split
 ·refine ⟨?_,rfl⟩
  obtain ⟨c,hc⟩:∃ c,s.cols[k1]? = some c:=⟨_,List.getElem?_eq_getElem h2.1⟩
  have hca:colAt s k1 = c:=colAt_get (by simpa using hc)
  have hl2:1 ≤ (lstOf s (colAt s k1)).2.length:=by
   rw [hca] at h2 ⊢
   obtain ⟨_,e,h5,_⟩:=hd.lvs hc h2.2
   rw [e] at h5
   have:=atS_length (lstOf s c).1 (lstOf s c).2 (levelsS (lstOf s c).1 (lstOf s c).2 - 1)
   omega
  have hn:=nxt_lt l k2 (n:=(lstOf s (colAt s k1)).2.length) (by omega)
  refine conE_02 (by simp [Cnd.op,Cnd.col,Cnd.code,Cnd.lo,Cnd.hi,Cnd.kids,kidN]) rfl ⟨?_,?_,?_⟩ ?_
  ·show (0:Int) ≤ (k1:Int);omega
  ·show (k1:Int) < s.cols.length;omega
  ·exact h2.2
  ·show ¬ (((nxt l k2 (lstOf s (colAt s k1)).2.length).1:Int) < 0 ∨ ((lstOf s (colAt s k1)).2.length:Int) ≤ ((nxt l k2 (lstOf s (colAt s k1)).2.length).1:Int))
   omega
 ·split
  ·refine ⟨?_,rfl⟩
   have h44:=nxt_lt l m2 (n:=44) (by omega)
   have h30:=nxt_lt l (nxt l m2 44).2 (n:=30) (by omega)
   rw [hxa]
   refine conE_03 (by simp [Cnd.op,Cnd.col,Cnd.code,Cnd.lo,Cnd.hi,Cnd.kids,kidN]) rfl ⟨?_,?_,?_⟩ ?_
   ·show (0:Int) ≤ (m1:Int);omega
   ·show (m1:Int) < s.cols.length;omega
   ·exact h3.2
   ·show ¬ (x.low + (-3 + ((nxt l m2 44).1:Int)) + ((nxt l (nxt l m2 44).2 30).1:Int) < x.low + (-3 + ((nxt l m2 44).1:Int)) ∨ x.low + (-3 + ((nxt l m2 44).1:Int)) < -1000000 ∨ 1000000 < x.low + (-3 + ((nxt l m2 44).1:Int)) + ((nxt l (nxt l m2 44).2 30).1:Int))
    omega
  ·split
   ·split
    ·refine ⟨?_,rfl⟩
     rename_i ho
     rw [hxa] at ho
     refine conE_04 (x:=x) (by simp [Cnd.op,Cnd.col,Cnd.code,Cnd.lo,Cnd.hi,Cnd.kids,kidN]) rfl ⟨?_,?_,?_⟩ ?_ ho
     ·show (0:Int) ≤ (m1:Int);omega
     ·show (m1:Int) < s.cols.length;omega
     ·exact h3.2
     ·show s.cols[((m1:Nat):Int).toNat]? = some x
      rw [Int.toNat_natCast];exact hx
    ·exact ⟨conE_all s,rfl⟩
   ·exact ⟨conE_all s,rfl⟩
theorem condS_ok {s:Sch} (hd:Drawn s) (l:List UInt8):∀ d a,chkS s (condS l s d a).1 = 0 ∧ totS (condS l s d a).1 + 1 ≤ 2 ^ (d + 1) ∧ depS (condS l s d a).1 ≤ d + 1
 | 0,a=>by
  obtain ⟨h1,h2⟩:=condL_ok hd l a
  obtain ⟨h3,h4,h5⟩:=chkS_leaf h1 h2
  show chkS s (condL l s a).1 = 0 ∧ _
  exact ⟨h3,by show totS (condL l s a).1 + 1 ≤ _;rw [h4];decide,by show depS (condL l s a).1 ≤ _;omega⟩
 | d + 1,a=>by
  have hp:2 ^ (d + 1 + 1) = 2 * 2 ^ (d + 1):=by rw [Nat.pow_succ];omega
  have hpos:2 ≤ 2 ^ (d + 1):=by rw [Nat.pow_succ];have:=Nat.one_le_two_pow (n:=d);omega
  unfold condS
  dsimp only
  generalize nxt l a 5 = q
  obtain ⟨x1,x2,x3⟩:=condS_ok hd l d q.2
  generalize condS l s d q.2 = x at *
  obtain ⟨y1,y2,y3⟩:=condS_ok hd l d x.2
  generalize condS l s d x.2 = y at *
  have two:∀ o:Int,o = 5 ∨ o = 6 → conE s (.mk o 0 0 0 0 [x.1,y.1]) = 0:=by
   intro o ho
   refine conE_01 ?_ ?_
   ·rcases ho with rfl | rfl <;> simp [Cnd.op,Cnd.col,Cnd.code,Cnd.lo,Cnd.hi,Cnd.kids,kidN]
   ·rcases ho with rfl | rfl <;> simp [Cnd.op]
  have twoC:∀ o:Int,o = 5 ∨ o = 6 → chkS s (.mk o 0 0 0 0 [x.1,y.1]) = 0 ∧ totS (.mk o 0 0 0 0 [x.1,y.1]) + 1 ≤ 2 ^ (d + 1 + 1) ∧ depS (.mk o 0 0 0 0 [x.1,y.1]) ≤ d + 1 + 1:=by
   intro o ho
   rw [chkS_eq,if_pos (two o ho)]
   refine ⟨?_,?_,?_⟩
   ·show chkL s [x.1,y.1] = 0
    simp [chkL,x1,y1]
   ·show totL [x.1,y.1] + 1 + 1 ≤ _
    simp only [totL];omega
   ·show depL [x.1,y.1] 0 + 1 ≤ _
    simp only [depL];omega
  split
  ·have h7:conE s (.mk 7 0 0 0 0 [x.1]) = 0:=conE_01 (by simp [Cnd.op,Cnd.col,Cnd.code,Cnd.lo,Cnd.hi,Cnd.kids,kidN]) (by simp [Cnd.op])
   dsimp only
   rw [chkS_eq,if_pos h7]
   refine ⟨?_,?_,?_⟩
   ·show chkL s [x.1] = 0
    simp [chkL,x1]
   ·show totL [x.1] + 1 + 1 ≤ _
    simp only [totL];omega
   ·show depL [x.1] 0 + 1 ≤ _
    simp only [depL];omega
  ·split
   ·exact twoC 5 (.inl rfl)
   ·split
    ·exact twoC 6 (.inr rfl)
    ·obtain ⟨h1,h2⟩:=condL_ok hd l q.2
     obtain ⟨h3,h4,h5⟩:=chkS_leaf h1 h2
     exact ⟨h3,by rw [h4];omega,by omega⟩
theorem cond_right {s:Sch} (hd:Drawn s) (l:List UInt8) (d a:Nat) (h:d ≤ 4):cndE s (condS l s d a).1 = 0 ∧ totS (condS l s d a).1 ≤ 31:=by
 obtain ⟨h1,h2,h3⟩:=condS_ok hd l d a
 have hp:2 ^ (d + 1) ≤ 2 ^ 5:=Nat.pow_le_pow_right (by omega) (by omega)
 have hp2:2 ^ 5 = 32:=by decide
 unfold cndE
 rw [if_pos hd.ok,if_neg (by omega),if_neg (by omega)]
 exact ⟨h1,by omega⟩
theorem tot_two (o:Int) (x y:Cnd):totS (.mk o 0 0 0 0 [x,y]) = totS x + totS y + 1 ∧ depS (.mk o 0 0 0 0 [x,y]) = max (depS x) (depS y) + 1:=by
 constructor
 ·show totL [x,y] + 1 = _
  simp only [totL];omega
 ·show depL [x,y] 0 + 1 = _
  simp only [depL];omega
theorem tot_one (o:Int) (x:Cnd):totS (.mk o 0 0 0 0 [x]) = totS x + 1 ∧ depS (.mk o 0 0 0 0 [x]) = depS x + 1:=by
 constructor
 ·show totL [x] + 1 = _
  simp only [totL] <;> omega
 ·show depL [x] 0 + 1 = _
  simp only [depL] <;> omega
end Go.Proofs.YtjmbhlgocikfiaaGreatDoor

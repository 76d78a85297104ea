/- Chapter 5: which level suffices for a condition about one column. Chapter 5: what a condition needs, as a list of picks; picks raised. Chapter 5: the program's needs of a condition. Chapter 5: the program's truth values for rows. -/
import Derived.Test.YthkklceofokkmaaGreatDoorBCm2
import Derived.Test.YthkklceofokkmaaGreatDoorBSx
import Derived.Test.YthkklceofokkmaaGreatDoorBCm1
import Derived.Test.YthkklceofokkmaaGreatDoorBC1
set_option linter.unusedVariables false
set_option linter.unnecessarySimpa false
set_option linter.unusedSimpArgs false
namespace Go.Proofs.YthkklceofokkmaaGreatDoor
open Go Go.Av
attribute [local irreducible] E5 B7 E6 E7 DQ E8 F0 St.le B3 B5
set_option maxRecDepth 100000
theorem Xv {s:B2} (hr:C8 s = 0) {a:A4} (ha:K0 s a = 0) (ho:a.op = 2 ∨ a.op = 3 ∨ a.op = 4):∃ x,s.cols[a.col.toNat]? = some x ∧ 1 ≤ a.col ∧ a.col < s.cols.length ∧ (a.op = 2 → x.kind = 2 ∧ 0 ≤ x.lst ∧ x.lst < s.lists.length ∧ R7 s a.col = G7 (D7 s x).1 (D7 s x).2 - 1) ∧ (a.op ≠ 2 → x.kind = 3 ∧ meaE x = 0 ∧ R7 s a.col = x.widths.length) ∧ (a.op = 3 → a.lo ≤ a.hi ∧ -1000000 ≤ a.lo ∧ a.hi ≤ 1000000) ∧ (a.op = 4 → x.opt = true):=by
 obtain ⟨p1,p2,p3,p4,p5,p6⟩:=GY ha
 have hc:=p3 ho
 obtain ⟨x,hx⟩:∃ x,s.cols[a.col.toNat]? = some x:=⟨_,List.getElem?_eq_getElem (by omega)⟩
 have hxa:=E0 hx
 rw [hxa] at p4 p5 p6
 have hkind:x.kind ≠ 1:=by
  intro h
  rcases ho with h2 | h2 | h2
  ·have:=(p4 h2).1;omega
  ·have:=(p5 h2).1;omega
  ·have:=(p6 h2).1;omega
 have h1:1 ≤ a.col:=by
  by_cases h:a.col = 0
  ·obtain ⟨_,_,_,_,h5⟩:=R3 hr
   rw [h] at hx
   have:s.cols.head? = some x:=by rw [← hx];cases s.cols <;> rfl
   rw [this] at h5
   simp only [Option.map_some,Option.some.injEq] at h5
   exact absurd h5 hkind
  ·omega
 have hf:R7 s a.col = Au s x:=by
  unfold R7
  rw [if_neg (by omega),hxa]
 refine ⟨x,hx,h1,hc.2,fun h2=>?_,fun h2=>?_,fun h3=>?_,fun h4=>(p6 h4).2⟩
 ·have hk:=(p4 h2).1
  have hl:=Aa.lst hr (List.mem_of_getElem? hx) hk
  exact ⟨hk,hl.1,hl.2,by rw [hf,Au,if_pos hk]⟩
 ·have hk:x.kind = 3:=by
   rcases ho with h | h | h
   ·exact absurd h h2
   ·exact (p5 h).1
   ·exact (p6 h).1
  obtain ⟨_,_,_,h4,_⟩:=R3 hr
  exact ⟨hk,NB (GS (h4 _ _ hx)).2.2.1 hk,by rw [hf,Au,if_neg (by omega)]⟩
 ·exact (p5 h3).2
def dR (s:B2) (a:A4):Nat → Nat → Nat
 | 0,n=>n
 | f + 1,n=>if fY s a n = true then n else dR s a f (n + 1)
def fZ (s:B2) (a:A4):Nat:=dR s a (R7 s a.col).toNat 0
def Tk (lv:Nat → Int) (lo:Nat):Nat → List Pk
 | 0=>[]
 | n + 1=>if 0 < lv lo then ⟨lo,lv lo⟩ :: Tk lv (lo + 1) n else Tk lv (lo + 1) n
def gC (s:B2) (l:List A4) (i:Nat):Int:=l.foldl (fun (m:Int) (a:A4)=>if a.col = (i:Int) then max m (fZ s a:Int) else m) 0
def Zh (s:B2) (c:A4):List Pk:=if H0 s c = 0 then Tk (gC s (dA c)) 0 s.cols.length else []
end Go.Proofs.YthkklceofokkmaaGreatDoor
namespace Go.Proofs.YthkklceofokkmaaGreatDoor
open Go Go.Av
attribute [local irreducible] E5 B7 E6 E7 DQ E8 F0 St.le B3 B5
set_option maxRecDepth 100000
theorem NH {s:B2} {c:A4} (h:K0 s c = 0) (hk:c.kids = []):j9 s c = 0 ∧ I8 c = 1 ∧ O8 c = 1:=by
 rw [Dw,if_pos h,Bk,Dv,hk]
 exact ⟨rfl,rfl,rfl⟩
theorem Pl (s:B2):K0 s (.mk 1 0 0 0 0 []) = 0 :=
 Ic (by simp [A4.op,A4.col,A4.code,A4.lo,A4.hi,A4.kids,U6]) (by simp [A4.op])
theorem Pm {s:B2} (hd:F6 s) (l:List UInt8) (a:Nat):K0 s (BJ l s a).1 = 0 ∧ (BJ l s a).1.kids = []:=by
 unfold BJ
 dsimp only
 generalize B9 l a 5 = q
 have h2:=(AC (l:=l) (a:=q.2) hd.two.1).2
 have h3:=(AC (l:=l) (a:=q.2) hd.two.2).2
 generalize k9 l q.2 s 2 = k at *
 generalize k9 l q.2 s 3 = m at *
 obtain ⟨k1,k2⟩:=k
 obtain ⟨m1,m2⟩:=m
 dsimp only at h2 h3 ⊢
 obtain ⟨x,hx⟩:∃ x,s.cols[m1]? = some x:=⟨_,List.getElem?_eq_getElem h3.1⟩
 have hxa:C6 s m1 = x:=E0 (by simpa using hx)
 have hxb:-4 ≤ x.low ∧ x.low ≤ 2:=by
  rw [hxa] at h3
  rcases hd.col hx with ⟨_,rfl⟩ | ⟨_,rfl | rfl⟩ | ⟨_,nm,hm⟩
  ·cases h3.2
  ·cases h3.2
  ·cases h3.2
  ·exact hm.low
 split
 ·refine ⟨?_,rfl⟩
  obtain ⟨c,hc⟩:∃ c,s.cols[k1]? = some c:=⟨_,List.getElem?_eq_getElem h2.1⟩
  have hca:C6 s k1 = c:=E0 (by simpa using hc)
  have hl2:1 ≤ (D7 s (C6 s k1)).2.length:=by
   rw [hca] at h2 ⊢
   obtain ⟨_,e,h5,_⟩:=hd.lvs hc h2.2
   rw [e] at h5
   have:=TU (D7 s c).1 (D7 s c).2 (G7 (D7 s c).1 (D7 s c).2 - 1)
   omega
  have hn:=I0 l k2 (n:=(D7 s (C6 s k1)).2.length) (by omega)
  refine Ru (by simp [A4.op,A4.col,A4.code,A4.lo,A4.hi,A4.kids,U6]) rfl ⟨?_,?_,?_⟩ ?_
  ·show (0:Int) ≤ (k1:Int);omega
  ·show (k1:Int) < s.cols.length;omega
  ·exact h2.2
  ·show ¬ (((B9 l k2 (D7 s (C6 s k1)).2.length).1:Int) < 0 ∨ ((D7 s (C6 s k1)).2.length:Int) ≤ ((B9 l k2 (D7 s (C6 s k1)).2.length).1:Int))
   omega
 ·split
  ·refine ⟨?_,rfl⟩
   have h44:=I0 l m2 (n:=44) (by omega)
   have h30:=I0 l (B9 l m2 44).2 (n:=30) (by omega)
   rw [hxa]
   refine Rv (by simp [A4.op,A4.col,A4.code,A4.lo,A4.hi,A4.kids,U6]) rfl ⟨?_,?_,?_⟩ ?_
   ·show (0:Int) ≤ (m1:Int);omega
   ·show (m1:Int) < s.cols.length;omega
   ·exact h3.2
   ·show ¬ (x.low + (-3 + ((B9 l m2 44).1:Int)) + ((B9 l (B9 l m2 44).2 30).1:Int) < x.low + (-3 + ((B9 l m2 44).1:Int)) ∨ x.low + (-3 + ((B9 l m2 44).1:Int)) < -1000000 ∨ 1000000 < x.low + (-3 + ((B9 l m2 44).1:Int)) + ((B9 l (B9 l m2 44).2 30).1:Int))
    omega
  ·split
   ·split
    ·refine ⟨?_,rfl⟩
     rename_i ho
     rw [hxa] at ho
     refine Rw (x:=x) (by simp [A4.op,A4.col,A4.code,A4.lo,A4.hi,A4.kids,U6]) rfl ⟨?_,?_,?_⟩ ?_ ho
     ·show (0:Int) ≤ (m1:Int);omega
     ·show (m1:Int) < s.cols.length;omega
     ·exact h3.2
     ·show s.cols[((m1:Nat):Int).toNat]? = some x
      rw [Int.toNat_natCast];exact hx
    ·exact ⟨Pl s,rfl⟩
   ·exact ⟨Pl s,rfl⟩
theorem Co {s:B2} (hd:F6 s) (l:List UInt8):∀ d a,j9 s (K6 l s d a).1 = 0 ∧ I8 (K6 l s d a).1 + 1 ≤ 2 ^ (d + 1) ∧ O8 (K6 l s d a).1 ≤ d + 1
 | 0,a=>by
   obtain ⟨h1,h2⟩:=Pm hd l a
   obtain ⟨h3,h4,h5⟩:=NH h1 h2
   show j9 s (BJ l s a).1 = 0 ∧ _
   exact ⟨h3,by show I8 (BJ l s a).1 + 1 ≤ _;rw [h4];decide,by show O8 (BJ l s a).1 ≤ _;omega⟩
 | d + 1,a=>by
   have hp:2 ^ (d + 1 + 1) = 2 * 2 ^ (d + 1):=by rw [Nat.pow_succ];omega
   have hpos:2 ≤ 2 ^ (d + 1):=by rw [Nat.pow_succ];have:=Nat.one_le_two_pow (n:=d);omega
   unfold K6
   dsimp only
   generalize B9 l a 5 = q
   obtain ⟨x1,x2,x3⟩:=Co hd l d q.2
   generalize K6 l s d q.2 = x at *
   obtain ⟨y1,y2,y3⟩:=Co hd l d x.2
   generalize K6 l s d x.2 = y at *
   have two:∀ o:Int,o = 5 ∨ o = 6 → K0 s (.mk o 0 0 0 0 [x.1,y.1]) = 0:=by
    intro o ho
    refine Ic ?_ ?_
    ·rcases ho with rfl | rfl <;> simp [A4.op,A4.col,A4.code,A4.lo,A4.hi,A4.kids,U6]
    ·rcases ho with rfl | rfl <;> simp [A4.op]
   have twoC:∀ o:Int,o = 5 ∨ o = 6 → j9 s (.mk o 0 0 0 0 [x.1,y.1]) = 0 ∧ I8 (.mk o 0 0 0 0 [x.1,y.1]) + 1 ≤ 2 ^ (d + 1 + 1) ∧ O8 (.mk o 0 0 0 0 [x.1,y.1]) ≤ d + 1 + 1:=by
    intro o ho
    rw [Dw,if_pos (two o ho)]
    refine ⟨?_,?_,?_⟩
    ·show Y4 s [x.1,y.1] = 0
     simp [Y4,x1,y1]
    ·show V9 [x.1,y.1] + 1 + 1 ≤ _
     simp only [V9];omega
    ·show S7 [x.1,y.1] 0 + 1 ≤ _
     simp only [S7];omega
   split
   ·have h7:K0 s (.mk 7 0 0 0 0 [x.1]) = 0:=Ic (by simp [A4.op,A4.col,A4.code,A4.lo,A4.hi,A4.kids,U6]) (by simp [A4.op])
    dsimp only
    rw [Dw,if_pos h7]
    refine ⟨?_,?_,?_⟩
    ·show Y4 s [x.1] = 0
     simp [Y4,x1]
    ·show V9 [x.1] + 1 + 1 ≤ _
     simp only [V9];omega
    ·show S7 [x.1] 0 + 1 ≤ _
     simp only [S7];omega
   ·split
    ·exact twoC 5 (.inl rfl)
    ·split
     ·exact twoC 6 (.inr rfl)
     ·obtain ⟨h1,h2⟩:=Pm hd l q.2
      obtain ⟨h3,h4,h5⟩:=NH h1 h2
      exact ⟨h3,by rw [h4];omega,by omega⟩
theorem Gd {s:B2} (hd:F6 s) (l:List UInt8) (d a:Nat) (h:d ≤ 4):H0 s (K6 l s d a).1 = 0 ∧ I8 (K6 l s d a).1 ≤ 31:=by
 obtain ⟨h1,h2,h3⟩:=Co hd l d a
 have hp:2 ^ (d + 1) ≤ 2 ^ 5:=Nat.pow_le_pow_right (by omega) (by omega)
 have hp2:2 ^ 5 = 32:=by decide
 unfold H0
 rw [if_pos hd.ok,if_neg (by omega),if_neg (by omega)]
 exact ⟨h1,by omega⟩
theorem ar (o:Int) (x y:A4):I8 (.mk o 0 0 0 0 [x,y]) = I8 x + I8 y + 1 ∧ O8 (.mk o 0 0 0 0 [x,y]) = max (O8 x) (O8 y) + 1:=by
 constructor
 ·show V9 [x,y] + 1 = _
  simp only [V9];omega
 ·show S7 [x,y] 0 + 1 = _
  simp only [S7];omega
theorem au (o:Int) (x:A4):I8 (.mk o 0 0 0 0 [x]) = I8 x + 1 ∧ O8 (.mk o 0 0 0 0 [x]) = O8 x + 1:=by
 constructor
 ·show V9 [x] + 1 = _
  simp only [V9] <;> omega
 ·show S7 [x] 0 + 1 = _
  simp only [S7] <;> omega
end Go.Proofs.YthkklceofokkmaaGreatDoor

/- Chapter 19: rows that are drawn, plain. -/
import Derived.Test.YtbhegmcbpolemaaDoorTDr1
import Derived.Test.YtbhegmcbpolemaaDoorTJm4
set_option linter.unusedVariables false
set_option linter.unnecessarySimpa false
set_option linter.unusedSimpArgs false
namespace Go.Proofs.YtbhegmcbpolemaaDoor
open Go Go.Av
attribute [local irreducible] E4 B6 F1 E7 DQ F6 F9 St.le B5 D4
set_option maxRecDepth 100000
def K7 (l:List UInt8) (a:Nat) (lo hi:Int):Int × Nat:=(lo + (R5 l a (hi - lo + 1)).1,(R5 l a (hi - lo + 1)).2)
theorem u5 (l:List UInt8) (a:Nat) {lo hi:Int} (h:lo ≤ hi):lo ≤ (K7 l a lo hi).1 ∧ (K7 l a lo hi).1 ≤ hi:=by
 have:=LR l a (n:=hi - lo + 1) (by omega)
 unfold K7
 dsimp only
 omega
theorem BM (l:List UInt8) (a:Nat) (lo hi:Int) (hl:l.length ≤ 400) (h1:lo ≤ hi) (h2:-4000000000000000000 ≤ lo) (h3:hi ≤ 4000000000000000000):D4 Tryd.prog 9 1 (BW l a) [.ref 0 0, .i lo, .i hi] 1 (BW l (K7 l a lo hi).2) (.i (K7 l a lo hi).1):=Jw l a lo hi hl h1 h2 h3
def I2 (l:List UInt8) (a:Nat):Nat → List Int × Nat
 | 0=>([],a)
 | k + 1=>((I2 l a k).1 ++ [(K7 l (I2 l a k).2 (-9) 20).1],(K7 l (I2 l a k).2 (-9) 20).2)
theorem CG (l:List UInt8) (a k:Nat):(I2 l a k).1.length = k:=by
 induction k with
 | zero=>rfl
 | succ k ih=>rw [I2,List.length_append,ih];rfl
theorem HY (l:List UInt8) (a k:Nat):∀ x ∈ (I2 l a k).1, -9 ≤ x ∧ x ≤ 20:=by
 induction k with
 | zero=>intro x hx;cases hx
 | succ k ih =>
   intro x hx
   rw [I2] at hx
   rcases List.mem_append.1 hx with h | h
   ·exact ih x h
   ·rw [List.mem_singleton.1 h];exact u5 l _ (by decide)
def m7 (l:List UInt8) (n a:Nat):List Int × Nat :=
 if ((R5 l (I2 l a n).2 7).1:Int) = 7 - 1 then ((I2 l a n).1.set 0 (1000 * (K7 l (R5 l (I2 l a n).2 7).2 (-900) 900).1),(K7 l (R5 l (I2 l a n).2 7).2 (-900) 900).2)
 else ((I2 l a n).1,(R5 l (I2 l a n).2 7).2)
theorem NI (l:List UInt8) (n a:Nat):(m7 l n a).1.length = n:=by
 unfold m7
 split <;> simp [CG]
theorem LS (l:List UInt8) (n a:Nat):∀ x ∈ (m7 l n a).1.drop 1, -9 ≤ x ∧ x ≤ 20:=by
 have h:=HY l a n
 unfold m7
 split
 ·dsimp only
  intro x hx
  cases e:(I2 l a n).1 with
  | nil=>rw [e] at hx;cases hx
  | cons y r=>rw [e] at hx;exact h x (by rw [e];exact List.mem_cons_of_mem _ hx)
 ·exact fun x hx=>h x (List.mem_of_mem_drop hx)
theorem PB (l:List UInt8) (n a:Nat):∀ x ∈ (m7 l n a).1, -900000 ≤ x ∧ x ≤ 900000:=by
 have h:=HY l a n
 unfold m7
 split
 ·dsimp only
  intro x hx
  have hb:=u5 l (R5 l (I2 l a n).2 7).2 (lo:=-900) (hi:=900) (by decide)
  rcases List.mem_or_eq_of_mem_set hx with h1 | h1
  ·have:=h x h1;omega
  ·omega
 ·intro x hx
  have:=h x hx
  omega
def L6 (l:List UInt8) (n a:Nat):Nat → List (List Int) × Nat
 | 0=>([],a)
 | k + 1=>((L6 l n a k).1 ++ [(m7 l n (L6 l n a k).2).1],(m7 l n (L6 l n a k).2).2)
theorem CH (l:List UInt8) (n a k:Nat):(L6 l n a k).1.length = k:=by
 induction k with
 | zero=>rfl
 | succ k ih=>rw [L6,List.length_append,ih];rfl
theorem LU (l:List UInt8) (n a k:Nat):∀ r ∈ (L6 l n a k).1, ∃ b,r = (m7 l n b).1:=by
 induction k with
 | zero=>intro x hx;cases hx
 | succ k ih =>
   intro x hx
   rw [L6] at hx
   rcases List.mem_append.1 hx with h | h
   ·exact ih x h
   ·exact ⟨_,List.mem_singleton.1 h⟩
def Y7 (l:List UInt8) (a:Nat):List (List Int) × Nat:=L6 l (K7 l a 2 4).1.toNat (K7 l (K7 l a 2 4).2 1 9).2 (K7 l (K7 l a 2 4).2 1 9).1.toNat
theorem NJ (l:List UInt8) (a:Nat):∃ n,2 ≤ n ∧ n ≤ 4 ∧ 1 ≤ (Y7 l a).1.length ∧ (Y7 l a).1.length ≤ 9 ∧ ∀ r ∈ (Y7 l a).1,r.length = n ∧ (∀ x ∈ r, -900000 ≤ x ∧ x ≤ 900000) ∧ ∀ x ∈ r.drop 1, -9 ≤ x ∧ x ≤ 20:=by
 have h1:=u5 l a (lo:=2) (hi:=4) (by decide)
 have h2:=u5 l (K7 l a 2 4).2 (lo:=1) (hi:=9) (by decide)
 refine ⟨(K7 l a 2 4).1.toNat,by omega,by omega,?_,?_,fun r hr=>?_⟩
 ·unfold Y7;rw [CH];omega
 ·unfold Y7;rw [CH];omega
 ·obtain ⟨b,rfl⟩:=LU _ _ _ _ r hr
  exact ⟨NI l _ b,PB l _ b,LS l _ b⟩
end Go.Proofs.YtbhegmcbpolemaaDoor

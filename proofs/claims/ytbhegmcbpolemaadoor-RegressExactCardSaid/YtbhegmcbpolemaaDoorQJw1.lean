/- Chapter 19: rows that are drawn, plain. -/
import Derived.Test.YtbhegmcbpolemaaDoorQDr1
import Derived.Test.YtbhegmcbpolemaaDoorQJm4
set_option linter.unusedVariables false
set_option linter.unnecessarySimpa false
set_option linter.unusedSimpArgs false
namespace Go.Proofs.YtbhegmcbpolemaaDoor
open Go Go.Av
attribute [local irreducible] E2 B3 G0 F3 DQ H4 H7 St.le B7 E1
set_option maxRecDepth 100000
def I0 (l:List UInt8) (a:Nat) (lo hi:Int):Int × Nat:=(lo + (Q5 l a (hi - lo + 1)).1,(Q5 l a (hi - lo + 1)).2)
theorem k8 (l:List UInt8) (a:Nat) {lo hi:Int} (h:lo ≤ hi):lo ≤ (I0 l a lo hi).1 ∧ (I0 l a lo hi).1 ≤ hi:=by
 have:=Ki l a (n:=hi - lo + 1) (by omega)
 unfold I0
 dsimp only
 omega
theorem s8 (l:List UInt8) (a:Nat) (lo hi:Int) (hl:l.length ≤ 400) (h1:lo ≤ hi) (h2:-4000000000000000000 ≤ lo) (h3:hi ≤ 4000000000000000000):E1 Tryd.prog 9 1 (CZ l a) [.ref 0 0, .i lo, .i hi] 1 (CZ l (I0 l a lo hi).2) (.i (I0 l a lo hi).1):=JR l a lo hi hl h1 h2 h3
def H8 (l:List UInt8) (a:Nat):Nat → List Int × Nat
 | 0=>([],a)
 | k + 1=>((H8 l a k).1 ++ [(I0 l (H8 l a k).2 (-9) 20).1],(I0 l (H8 l a k).2 (-9) 20).2)
theorem Br (l:List UInt8) (a k:Nat):(H8 l a k).1.length = k:=by
 induction k with
 | zero=>rfl
 | succ k ih=>rw [H8,List.length_append,ih];rfl
theorem HC (l:List UInt8) (a k:Nat):∀ x ∈ (H8 l a k).1, -9 ≤ x ∧ x ≤ 20:=by
 induction k with
 | zero=>intro x hx;cases hx
 | succ k ih =>
   intro x hx
   rw [H8] at hx
   rcases List.mem_append.1 hx with h | h
   ·exact ih x h
   ·rw [List.mem_singleton.1 h];exact k8 l _ (by decide)
def l6 (l:List UInt8) (n a:Nat):List Int × Nat :=
 if ((Q5 l (H8 l a n).2 7).1:Int) = 7 - 1 then ((H8 l a n).1.set 0 (1000 * (I0 l (Q5 l (H8 l a n).2 7).2 (-900) 900).1),(I0 l (Q5 l (H8 l a n).2 7).2 (-900) 900).2)
 else ((H8 l a n).1,(Q5 l (H8 l a n).2 7).2)
theorem NE (l:List UInt8) (n a:Nat):(l6 l n a).1.length = n:=by
 unfold l6
 split <;> simp [Br]
theorem LN (l:List UInt8) (n a:Nat):∀ x ∈ (l6 l n a).1.drop 1, -9 ≤ x ∧ x ≤ 20:=by
 have h:=HC l a n
 unfold l6
 split
 ·dsimp only
  intro x hx
  cases e:(H8 l a n).1 with
  | nil=>rw [e] at hx;cases hx
  | cons y r=>rw [e] at hx;exact h x (by rw [e];exact List.mem_cons_of_mem _ hx)
 ·exact fun x hx=>h x (List.mem_of_mem_drop hx)
theorem Oo (l:List UInt8) (n a:Nat):∀ x ∈ (l6 l n a).1, -900000 ≤ x ∧ x ≤ 900000:=by
 have h:=HC l a n
 unfold l6
 split
 ·dsimp only
  intro x hx
  have hb:=k8 l (Q5 l (H8 l a n).2 7).2 (lo:=-900) (hi:=900) (by decide)
  rcases List.mem_or_eq_of_mem_set hx with h1 | h1
  ·have:=h x h1;omega
  ·omega
 ·intro x hx
  have:=h x hx
  omega
def L1 (l:List UInt8) (n a:Nat):Nat → List (List Int) × Nat
 | 0=>([],a)
 | k + 1=>((L1 l n a k).1 ++ [(l6 l n (L1 l n a k).2).1],(l6 l n (L1 l n a k).2).2)
theorem x7 (l:List UInt8) (n a k:Nat):(L1 l n a k).1.length = k:=by
 induction k with
 | zero=>rfl
 | succ k ih=>rw [L1,List.length_append,ih];rfl
theorem LO (l:List UInt8) (n a k:Nat):∀ r ∈ (L1 l n a k).1, ∃ b,r = (l6 l n b).1:=by
 induction k with
 | zero=>intro x hx;cases hx
 | succ k ih =>
   intro x hx
   rw [L1] at hx
   rcases List.mem_append.1 hx with h | h
   ·exact ih x h
   ·exact ⟨_,List.mem_singleton.1 h⟩
def Y5 (l:List UInt8) (a:Nat):List (List Int) × Nat:=L1 l (I0 l a 2 4).1.toNat (I0 l (I0 l a 2 4).2 1 9).2 (I0 l (I0 l a 2 4).2 1 9).1.toNat
theorem NF (l:List UInt8) (a:Nat):∃ n,2 ≤ n ∧ n ≤ 4 ∧ 1 ≤ (Y5 l a).1.length ∧ (Y5 l a).1.length ≤ 9 ∧ ∀ r ∈ (Y5 l a).1,r.length = n ∧ (∀ x ∈ r, -900000 ≤ x ∧ x ≤ 900000) ∧ ∀ x ∈ r.drop 1, -9 ≤ x ∧ x ≤ 20:=by
 have h1:=k8 l a (lo:=2) (hi:=4) (by decide)
 have h2:=k8 l (I0 l a 2 4).2 (lo:=1) (hi:=9) (by decide)
 refine ⟨(I0 l a 2 4).1.toNat,by omega,by omega,?_,?_,fun r hr=>?_⟩
 ·unfold Y5;rw [x7];omega
 ·unfold Y5;rw [x7];omega
 ·obtain ⟨b,rfl⟩:=LO _ _ _ _ r hr
  exact ⟨NE l _ b,Oo l _ b,LN l _ b⟩
end Go.Proofs.YtbhegmcbpolemaaDoor

/- Chapter 19: rows that are drawn, plain. -/
import Derived.Test.YtbhegmcbpolemaaDoorSDr1
import Derived.Test.YtbhegmcbpolemaaDoorSJm4
set_option linter.unusedVariables false
set_option linter.unnecessarySimpa false
set_option linter.unusedSimpArgs false
namespace Go.Proofs.YtbhegmcbpolemaaDoor
open Go Go.Av
attribute [local irreducible] E3 B5 F2 F0 DQ F5 G8 St.le B6 D3
set_option maxRecDepth 100000
def K8 (l:List UInt8) (a:Nat) (lo hi:Int):Int × Nat:=(lo + (R2 l a (hi - lo + 1)).1,(R2 l a (hi - lo + 1)).2)
theorem x8 (l:List UInt8) (a:Nat) {lo hi:Int} (h:lo ≤ hi):lo ≤ (K8 l a lo hi).1 ∧ (K8 l a lo hi).1 ≤ hi:=by
 have:=Lw l a (n:=hi - lo + 1) (by omega)
 unfold K8
 dsimp only
 omega
theorem Bc (l:List UInt8) (a:Nat) (lo hi:Int) (hl:l.length ≤ 400) (h1:lo ≤ hi) (h2:-4000000000000000000 ≤ lo) (h3:hi ≤ 4000000000000000000):D3 Tryd.prog 9 1 (Bl l a) [.ref 0 0, .i lo, .i hi] 1 (Bl l (K8 l a lo hi).2) (.i (K8 l a lo hi).1):=KO l a lo hi hl h1 h2 h3
def I1 (l:List UInt8) (a:Nat):Nat → List Int × Nat
 | 0=>([],a)
 | k + 1=>((I1 l a k).1 ++ [(K8 l (I1 l a k).2 (-9) 20).1],(K8 l (I1 l a k).2 (-9) 20).2)
theorem CX (l:List UInt8) (a k:Nat):(I1 l a k).1.length = k:=by
 induction k with
 | zero=>rfl
 | succ k ih=>rw [I1,List.length_append,ih];rfl
theorem Hr (l:List UInt8) (a k:Nat):∀ x ∈ (I1 l a k).1, -9 ≤ x ∧ x ≤ 20:=by
 induction k with
 | zero=>intro x hx;cases hx
 | succ k ih =>
   intro x hx
   rw [I1] at hx
   rcases List.mem_append.1 hx with h | h
   ·exact ih x h
   ·rw [List.mem_singleton.1 h];exact x8 l _ (by decide)
def o0 (l:List UInt8) (n a:Nat):List Int × Nat :=
 if ((R2 l (I1 l a n).2 7).1:Int) = 7 - 1 then ((I1 l a n).1.set 0 (1000 * (K8 l (R2 l (I1 l a n).2 7).2 (-900) 900).1),(K8 l (R2 l (I1 l a n).2 7).2 (-900) 900).2)
 else ((I1 l a n).1,(R2 l (I1 l a n).2 7).2)
theorem Nz (l:List UInt8) (n a:Nat):(o0 l n a).1.length = n:=by
 unfold o0
 split <;> simp [CX]
theorem Lx (l:List UInt8) (n a:Nat):∀ x ∈ (o0 l n a).1.drop 1, -9 ≤ x ∧ x ≤ 20:=by
 have h:=Hr l a n
 unfold o0
 split
 ·dsimp only
  intro x hx
  cases e:(I1 l a n).1 with
  | nil=>rw [e] at hx;cases hx
  | cons y r=>rw [e] at hx;exact h x (by rw [e];exact List.mem_cons_of_mem _ hx)
 ·exact fun x hx=>h x (List.mem_of_mem_drop hx)
theorem Pq (l:List UInt8) (n a:Nat):∀ x ∈ (o0 l n a).1, -900000 ≤ x ∧ x ≤ 900000:=by
 have h:=Hr l a n
 unfold o0
 split
 ·dsimp only
  intro x hx
  have hb:=x8 l (R2 l (I1 l a n).2 7).2 (lo:=-900) (hi:=900) (by decide)
  rcases List.mem_or_eq_of_mem_set hx with h1 | h1
  ·have:=h x h1;omega
  ·omega
 ·intro x hx
  have:=h x hx
  omega
def L3 (l:List UInt8) (n a:Nat):Nat → List (List Int) × Nat
 | 0=>([],a)
 | k + 1=>((L3 l n a k).1 ++ [(o0 l n (L3 l n a k).2).1],(o0 l n (L3 l n a k).2).2)
theorem CY (l:List UInt8) (n a k:Nat):(L3 l n a k).1.length = k:=by
 induction k with
 | zero=>rfl
 | succ k ih=>rw [L3,List.length_append,ih];rfl
theorem Ly (l:List UInt8) (n a k:Nat):∀ r ∈ (L3 l n a k).1, ∃ b,r = (o0 l n b).1:=by
 induction k with
 | zero=>intro x hx;cases hx
 | succ k ih =>
   intro x hx
   rw [L3] at hx
   rcases List.mem_append.1 hx with h | h
   ·exact ih x h
   ·exact ⟨_,List.mem_singleton.1 h⟩
def Z7 (l:List UInt8) (a:Nat):List (List Int) × Nat:=L3 l (K8 l a 2 4).1.toNat (K8 l (K8 l a 2 4).2 1 9).2 (K8 l (K8 l a 2 4).2 1 9).1.toNat
theorem OA (l:List UInt8) (a:Nat):∃ n,2 ≤ n ∧ n ≤ 4 ∧ 1 ≤ (Z7 l a).1.length ∧ (Z7 l a).1.length ≤ 9 ∧ ∀ r ∈ (Z7 l a).1,r.length = n ∧ (∀ x ∈ r, -900000 ≤ x ∧ x ≤ 900000) ∧ ∀ x ∈ r.drop 1, -9 ≤ x ∧ x ≤ 20:=by
 have h1:=x8 l a (lo:=2) (hi:=4) (by decide)
 have h2:=x8 l (K8 l a 2 4).2 (lo:=1) (hi:=9) (by decide)
 refine ⟨(K8 l a 2 4).1.toNat,by omega,by omega,?_,?_,fun r hr=>?_⟩
 ·unfold Z7;rw [CY];omega
 ·unfold Z7;rw [CY];omega
 ·obtain ⟨b,rfl⟩:=Ly _ _ _ _ r hr
  exact ⟨Nz l _ b,Pq l _ b,Lx l _ b⟩
end Go.Proofs.YtbhegmcbpolemaaDoor

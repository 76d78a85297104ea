/- Determinants: plain. -/
import Derived.Test.YtbhegmcbpolemaaDoorTAvTy
set_option linter.unusedVariables false
set_option linter.unnecessarySimpa false
set_option linter.unusedSimpArgs false
namespace Go.Proofs.YtbhegmcbpolemaaDoor
open Go Go.Av
attribute [local irreducible] E4 B6 F1 E7 DQ F6 F9 St.le B5 D4
set_option maxRecDepth 100000
def E8:Nat → (Nat → Int) → Int
 | 0,_=>0
 | n + 1,f=>E8 n f + f n
theorem o5 {n:Nat} {f g:Nat → Int} (h:∀ i,i < n → f i = g i):E8 n f = E8 n g:=by
 induction n with
 | zero=>rfl
 | succ n ih=>simp only [E8];rw [ih fun i hi=>h i (by omega),h n (by omega)]
theorem Mh (n:Nat) (c:Int) (f:Nat → Int):E8 n (fun i=>c * f i) = c * E8 n f:=by
 induction n with
 | zero=>simp [E8]
 | succ n ih=>simp only [E8,ih,Int.mul_add]
theorem Cr {n:Nat} {f:Nat → Int} (h:∀ i,i < n → 0 ≤ f i):0 ≤ E8 n f:=by
 induction n with
 | zero=>exact Int.le_refl _
 | succ n ih =>
   simp only [E8]
   have h1:=ih fun i hi=>h i (by omega)
   have h2:=h n (by omega)
   omega
theorem Ob {n:Nat} {f g:Nat → Int} (h:∀ i,i < n → f i ≤ g i):E8 n f ≤ E8 n g:=by
 induction n with
 | zero=>exact Int.le_refl _
 | succ n ih =>
   simp only [E8]
   have h1:=ih fun i hi=>h i (by omega)
   have h2:=h n (by omega)
   omega
theorem Mi (n:Nat) (f:Nat → Int):((E8 n f).natAbs:Int) ≤ E8 n (fun i=>((f i).natAbs:Int)):=by
 induction n with
 | zero=>simp [E8]
 | succ n ih=>simp only [E8];omega
def AW (k j:Nat):Nat:=if j < k then j else j + 1
def S2 (k:Nat):Int:=if k % 2 = 0 then 1 else -1
theorem Mj (k:Nat):S2 (k + 1) = - S2 k:=by
 unfold S2
 by_cases h:k % 2 = 0
 ·rw [if_pos h,if_neg (by omega)]
 ·rw [if_neg h,if_pos (by omega)];rfl
theorem Oc (k:Nat):(S2 k).natAbs = 1:=by unfold S2;split <;> rfl
def V1:Nat → (Nat → Nat → Int) → Int
 | 0,_=>1
 | n + 1,a=>E8 (n + 1) fun k=>S2 k * a 0 k * V1 n fun i j=>a (i + 1) (AW k j)
theorem Px {k j n:Nat} (hj:j < n):AW k j < n + 1:=by unfold AW;split <;> omega
theorem o6 {n:Nat} {a b:Nat → Nat → Int} (h:∀ i j,i < n → j < n → a i j = b i j):V1 n a = V1 n b:=by
 induction n generalizing a b with
 | zero=>rfl
 | succ n ih =>
   simp only [V1]
   refine o5 fun k hk=>?_
   rw [h 0 k (by omega) hk,ih fun i j hi hj=>h (i + 1) (AW k j) (by omega) (Px hj)]
def RN (a:Nat → Nat → Int) (k:Nat) (w:Nat → Int):Nat → Nat → Int:=fun i j=>if j = k then w i else a i j
def o7:Nat → (Nat → Int) → Int
 | 0,_=>1
 | n + 1,f=>f 0 * o7 n fun i=>f (i + 1)
theorem FY {n:Nat} {f:Nat → Int} (h:∀ i,i < n → 0 ≤ f i):0 ≤ o7 n f:=by
 induction n generalizing f with
 | zero=>exact Int.zero_le_ofNat 1
 | succ n ih=>exact Int.mul_nonneg (h 0 (by omega)) (ih fun i hi=>h (i + 1) (by omega))
theorem Mk {n:Nat} {f g:Nat → Int} (h0:∀ i,i < n → 0 ≤ f i) (h:∀ i,i < n → f i ≤ g i):o7 n f ≤ o7 n g:=by
 induction n generalizing f g with
 | zero=>exact Int.le_refl _
 | succ n ih =>
   have h1:=ih (f:=fun i=>f (i + 1)) (g:=fun i=>g (i + 1)) (fun i hi=>h0 (i + 1) (by omega)) fun i hi=>h (i + 1) (by omega)
   exact Int.mul_le_mul (h 0 (by omega)) h1 (FY fun i hi=>h0 (i + 1) (by omega)) (Int.le_trans (h0 0 (by omega)) (h 0 (by omega)))
theorem Od (n k:Nat) (hk:k < n + 1) (f:Nat → Int):E8 n (fun j=>f (AW k j)) + f k = E8 (n + 1) f:=by
 induction n with
 | zero=>have:k = 0:=by omega
         subst this;simp [E8]
 | succ n ih =>
   by_cases e:k = n + 1
   ·subst e
    simp only [E8]
    have h1:∀ m,m ≤ n + 1 → E8 m (fun j=>f (AW (n + 1) j)) = E8 m f:=fun m hm=>o5 fun i hi=>by
     have:AW (n + 1) i = i:=by unfold AW;rw [if_pos (by omega)]
     rw [this]
    have h2:=h1 (n + 1) (Nat.le_refl _)
    simp only [E8] at h2
    omega
   ·have h1:=ih (by omega)
    simp only [E8] at h1 ⊢
    have:AW k n = n + 1:=by unfold AW;rw [if_neg (by omega)]
    rw [this]
    omega
theorem Oe (n:Nat) (a:Nat → Nat → Int):((V1 n a).natAbs:Int) ≤ o7 n fun i=>E8 n fun j=>((a i j).natAbs:Int):=by
 induction n generalizing a with
 | zero=>simp [V1,o7]
 | succ n ih =>
   simp only [V1,o7]
   refine Int.le_trans (Mi _ _) ?_
   rw [Int.mul_comm, ← Mh]
   refine Ob fun k hk=>?_
   rw [Int.natAbs_mul,Int.natAbs_mul,Oc,Nat.one_mul,Int.natCast_mul,Int.mul_comm]
   refine Int.mul_le_mul_of_nonneg_right ?_ (Int.natCast_nonneg _)
   refine Int.le_trans (ih _) (Mk (fun i hi=>Cr fun j hj=>Int.natCast_nonneg _) fun i hi=>?_)
   have h1:=Od n k hk fun j=>((a (i + 1) j).natAbs:Int)
   have h2:(0:Int) ≤ ((a (i + 1) k).natAbs:Int):=Int.natCast_nonneg _
   omega
end Go.Proofs.YtbhegmcbpolemaaDoor

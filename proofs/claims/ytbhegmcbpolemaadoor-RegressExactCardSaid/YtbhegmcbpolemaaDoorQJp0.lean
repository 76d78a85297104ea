/- Determinants: plain. -/
import Derived.Test.YtbhegmcbpolemaaDoorQAvTy
set_option linter.unusedVariables false
set_option linter.unnecessarySimpa false
set_option linter.unusedSimpArgs false
namespace Go.Proofs.YtbhegmcbpolemaaDoor
open Go Go.Av
attribute [local irreducible] E2 B3 G0 F3 DQ H4 H7 St.le B7 E1
set_option maxRecDepth 100000
def B8:Nat → (Nat → Int) → Int
 | 0,_=>0
 | n + 1,f=>B8 n f + f n
theorem E8 {n:Nat} {f g:Nat → Int} (h:∀ i,i < n → f i = g i):B8 n f = B8 n g:=by
 induction n with
 | zero=>rfl
 | succ n ih=>simp only [B8];rw [ih fun i hi=>h i (by omega),h n (by omega)]
theorem Gi (n:Nat) (f g:Nat → Int):B8 n (fun i=>f i + g i) = B8 n f + B8 n g:=by
 induction n with
 | zero=>rfl
 | succ n ih=>simp only [B8,ih];omega
theorem O7 (n:Nat) (c:Int) (f:Nat → Int):B8 n (fun i=>c * f i) = c * B8 n f:=by
 induction n with
 | zero=>simp [B8]
 | succ n ih=>simp only [B8,ih,Int.mul_add]
theorem Ez (n:Nat):B8 n (fun _=>0) = 0:=by
 induction n with
 | zero=>rfl
 | succ n ih=>simp only [B8,ih];rfl
theorem Kj {n:Nat} {f:Nat → Int} (h:∀ i,i < n → f i = 0):B8 n f = 0:=by rw [E8 h,Ez]
theorem Gj {n:Nat} {f:Nat → Int} (k:Nat) (hk:k < n) (h:∀ i,i < n → i ≠ k → f i = 0):B8 n f = f k:=by
 induction n with
 | zero=>omega
 | succ n ih =>
   simp only [B8]
   by_cases e:k = n
   ·subst e
    rw [Kj fun i hi=>h i (by omega) (by omega)];omega
   ·rw [ih (by omega) fun i hi hne=>h i (by omega) hne,h n (by omega) (by omega)];omega
theorem Ma {n:Nat} {f:Nat → Int} (k:Nat) (hk:k + 1 < n) (hs:f k + f (k + 1) = 0) (h:∀ i,i < n → i ≠ k → i ≠ k + 1 → f i = 0):B8 n f = 0:=by
 induction n with
 | zero=>omega
 | succ n ih =>
   simp only [B8]
   by_cases e:k + 1 = n
   ·subst e
    rw [Gj k (by omega) fun i hi hne=>h i (by omega) hne (by omega)];omega
   ·rw [ih (by omega) fun i hi h1 h2=>h i (by omega) h1 h2,h n (by omega) (by omega) (by omega)];rfl
theorem Kk (n m:Nat) (f:Nat → Nat → Int):B8 n (fun i=>B8 m (f i)) = B8 m (fun j=>B8 n fun i=>f i j):=by
 induction n with
 | zero=>simp only [B8];rw [Ez]
 | succ n ih=>simp only [B8];rw [ih, ← Gi]
theorem Ca {n:Nat} {f:Nat → Int} (h:∀ i,i < n → 0 ≤ f i):0 ≤ B8 n f:=by
 induction n with
 | zero=>exact Int.le_refl _
 | succ n ih =>
   simp only [B8]
   have h1:=ih fun i hi=>h i (by omega)
   have h2:=h n (by omega)
   omega
theorem OM {n:Nat} {f g:Nat → Int} (h:∀ i,i < n → f i ≤ g i):B8 n f ≤ B8 n g:=by
 induction n with
 | zero=>exact Int.le_refl _
 | succ n ih =>
   simp only [B8]
   have h1:=ih fun i hi=>h i (by omega)
   have h2:=h n (by omega)
   omega
theorem Mb (n:Nat) (f:Nat → Int):((B8 n f).natAbs:Int) ≤ B8 n (fun i=>((f i).natAbs:Int)):=by
 induction n with
 | zero=>simp [B8]
 | succ n ih=>simp only [B8];omega
def G2 (k j:Nat):Nat:=if j < k then j else j + 1
def I6 (k:Nat):Int:=if k % 2 = 0 then 1 else -1
theorem T1 (k:Nat):I6 (k + 1) = - I6 k:=by
 unfold I6
 by_cases h:k % 2 = 0
 ·rw [if_pos h,if_neg (by omega)]
 ·rw [if_neg h,if_pos (by omega)];rfl
theorem ON (k:Nat):(I6 k).natAbs = 1:=by unfold I6;split <;> rfl
def C5:Nat → (Nat → Nat → Int) → Int
 | 0,_=>1
 | n + 1,a=>B8 (n + 1) fun k=>I6 k * a 0 k * C5 n fun i j=>a (i + 1) (G2 k j)
theorem Pj {k j n:Nat} (hj:j < n):G2 k j < n + 1:=by unfold G2;split <;> omega
theorem H9 {n:Nat} {a b:Nat → Nat → Int} (h:∀ i j,i < n → j < n → a i j = b i j):C5 n a = C5 n b:=by
 induction n generalizing a b with
 | zero=>rfl
 | succ n ih =>
   simp only [C5]
   refine E8 fun k hk=>?_
   rw [h 0 k (by omega) hk,ih fun i j hi hj=>h (i + 1) (G2 k j) (by omega) (Pj hj)]
def D7 (a:Nat → Nat → Int) (k:Nat) (w:Nat → Int):Nat → Nat → Int:=fun i j=>if j = k then w i else a i j
theorem Y0 (a:Nat → Nat → Int) (k:Nat) (w:Nat → Int):(fun i j=>D7 a k w (i + 1) (G2 k j)) = fun i j=>a (i + 1) (G2 k j):=by
 funext i j
 simp only [D7]
 rw [if_neg]
 unfold G2;split <;> omega
theorem Ap {a:Nat → Nat → Int} {k m:Nat} {w:Nat → Int} (h:m ≠ k):(fun i j=>D7 a k w (i + 1) (G2 m j)) = D7 (fun i j=>a (i + 1) (G2 m j)) (if k < m then k else k - 1) (fun i=>w (i + 1)):=by
 funext i j
 simp only [D7]
 have e:G2 m j = k ↔ j = if k < m then k else k - 1:=by
  unfold G2
  constructor
  ·intro h;split at h <;> split <;> omega
  ·intro h;split at h <;> split <;> omega
 by_cases h1:G2 m j = k
 ·rw [if_pos h1,if_pos (e.1 h1)]
 ·rw [if_neg h1,if_neg fun h2=>h1 (e.2 h2)]
theorem w6 (n:Nat) (a:Nat → Nat → Int) (k:Nat) (hk:k < n) (x y:Int) (u v:Nat → Int):C5 n (D7 a k fun i=>x * u i + y * v i) = x * C5 n (D7 a k u) + y * C5 n (D7 a k v):=by
 induction n generalizing a k u v with
 | zero=>omega
 | succ n ih =>
   simp only [C5]
   rw [← O7, ← O7, ← Gi]
   refine E8 fun m hm=>?_
   by_cases e:m = k
   ·subst e
    rw [Y0,Y0,Y0]
    simp only [D7,if_pos]
    grind
   ·rw [Ap e,Ap e,Ap e]
    rw [ih _ (if k < m then k else k - 1) (by split <;> omega)]
    simp only [D7,if_neg e]
    grind
theorem Gk (n:Nat) (a:Nat → Nat → Int) (k:Nat) (hk:k + 1 < n) (h:∀ i,i < n → a i k = a i (k + 1)):C5 n a = 0:=by
 induction n generalizing a k with
 | zero=>omega
 | succ n ih =>
   simp only [C5]
   refine Ma k hk ?_ fun m hm h1 h2=>?_
   ·rw [T1,h 0 (by omega)]
    have e:C5 n (fun i j=>a (i + 1) (G2 k j)) = C5 n (fun i j=>a (i + 1) (G2 (k + 1) j)):=H9 fun i j hi hj=>by
     by_cases e:j = k
     ·subst e
      have e1:G2 j j = j + 1:=by unfold G2;rw [if_neg (by omega)]
      have e2:G2 (j + 1) j = j:=by unfold G2;rw [if_pos (by omega)]
      rw [e1,e2];exact (h (i + 1) (by omega)).symm
     ·have:G2 k j = G2 (k + 1) j:=by unfold G2;split <;> split <;> omega
      rw [this]
    rw [e];grind
   ·rw [ih _ (if k < m then k else k - 1) (by split <;> omega) fun i hi=>?_]
    ·rw [Int.mul_zero]
    ·have e1:G2 m (if k < m then k else k - 1) = k:=by unfold G2;(repeat' split) <;> omega
     have e2:G2 m ((if k < m then k else k - 1) + 1) = k + 1:=by unfold G2;(repeat' split) <;> omega
     rw [e1,e2];exact h (i + 1) (by omega)
theorem FA (a:Nat → Nat → Int) (k:Nat):D7 a k (fun i=>a i k) = a:=by
 funext i j
 simp only [D7]
 split
 ·rename_i h;rw [h]
 ·rfl
theorem W6 (a:Nat → Nat → Int) {k m:Nat} (h:k ≠ m) (u v:Nat → Int):D7 (D7 a k u) m v = D7 (D7 a m v) k u:=by
 funext i j
 simp only [D7]
 by_cases e1:j = k <;> by_cases e2:j = m
 ·omega
 ·rw [if_neg e2,if_pos e1,if_pos e1]
 ·rw [if_pos e2,if_neg e1,if_pos e2]
 ·rw [if_neg e2,if_neg e1,if_neg e1,if_neg e2]
theorem n3 (n:Nat) (a:Nat → Nat → Int) (k:Nat) (hk:k < n) (u v:Nat → Int):C5 n (D7 a k fun i=>u i + v i) = C5 n (D7 a k u) + C5 n (D7 a k v):=by
 have:=w6 n a k hk 1 1 u v
 simpa using this
theorem FB (n:Nat) (a:Nat → Nat → Int) (k:Nat) (hk:k + 1 < n) (u v:Nat → Int):C5 n (D7 (D7 a k u) (k + 1) v) = - C5 n (D7 (D7 a k v) (k + 1) u):=by
 have hz:∀ x:Nat → Int,C5 n (D7 (D7 a k x) (k + 1) x) = 0:=fun x=>Gk n _ k hk fun i _=>by simp [D7]
 have h0:=hz fun i=>u i + v i
 rw [n3 n _ (k + 1) hk,W6 a (by omega:k ≠ k + 1),W6 a (by omega:k ≠ k + 1),n3 n _ k (by omega),n3 n _ k (by omega), ← W6 a (by omega:k ≠ k + 1), ← W6 a (by omega:k ≠ k + 1), ← W6 a (by omega:k ≠ k + 1), ← W6 a (by omega:k ≠ k + 1),hz u,hz v] at h0
 omega
theorem ID (n d:Nat) (a:Nat → Nat → Int) (k:Nat) (hk:k + 1 + d < n) (h:∀ i,a i k = a i (k + 1 + d)):C5 n a = 0:=by
 induction d generalizing a k with
 | zero=>exact Gk n a k hk fun i _=>h i
 | succ d ih =>
   -- the first one moves by one place
   have e:a = D7 (D7 a k fun i=>a i k) (k + 1) fun i=>a i (k + 1):=by
    funext i j
    simp only [D7]
    split
    ·rename_i e;rw [e]
    ·split
     ·rename_i e;rw [e]
     ·rfl
   rw [e,FB n a k (by omega)]
   rw [ih _ (k + 1) (by omega) fun i=>?_]
   ·rfl
   ·simp only [D7]
    rw [if_pos trivial,if_neg (by omega),if_neg (by omega),h i]
    congr 1;omega
theorem Cr (n:Nat) (a:Nat → Nat → Int) (k m:Nat) (hk:k < n) (hm:m < n) (hne:k ≠ m) (h:∀ i,a i k = a i m):C5 n a = 0:=by
 rcases Nat.lt_or_gt_of_ne hne with hl | hl
 ·exact ID n (m - k - 1) a k (by omega) fun i=>by rw [h i];congr 1;omega
 ·exact ID n (k - m - 1) a m (by omega) fun i=>by rw [← h i];congr 1;omega
theorem Gl (n:Nat) (a:Nat → Nat → Int) (k:Nat) (hk:k < n) (m:Nat) (w:Nat → Int) (c:Nat → Nat → Int):C5 n (D7 a k fun i=>B8 m fun j=>w j * c i j) = B8 m fun j=>w j * C5 n (D7 a k fun i=>c i j):=by
 induction m with
 | zero =>
   simp only [B8]
   have:=w6 n a k hk 0 0 (fun _=>0) (fun _=>0)
   simpa using this
 | succ m ih =>
   simp only [B8]
   have:=w6 n a k hk 1 (w m) (fun i=>B8 m fun j=>w j * c i j) (fun i=>c i m)
   simp only [Int.one_mul] at this
   rw [this,ih]
theorem Hb (n:Nat) (a:Nat → Nat → Int) (k:Nat) (hk:k < n) (w:Nat → Int):C5 n (D7 a k fun i=>B8 n fun j=>w j * a i j) = w k * C5 n a:=by
 rw [Gl n a k hk]
 rw [Gj k hk fun j hj hne=>?_]
 ·rw [FA]
 ·rw [Cr n _ k j hk hj (Ne.symm hne) fun i=>?_,Int.mul_zero]
  simp [D7,hne]
theorem Kl (n:Nat) (a:Nat → Nat → Int) (h:∀ i,i < n → a i n = 0):C5 (n + 1) a = a n n * C5 n a:=by
 induction n generalizing a with
 | zero=>simp [C5,B8,I6]
 | succ n ih =>
   rw [C5]
   rw [B8,h 0 (by omega),Int.mul_zero,Int.zero_mul,Int.add_zero]
   rw [C5, ← O7]
   refine E8 fun k hk=>?_
   rw [ih _ fun i hi=>?_]
   ·have:G2 k n = n + 1:=by unfold G2;rw [if_neg (by omega)]
    rw [this];grind
   ·have:G2 k n = n + 1:=by unfold G2;rw [if_neg (by omega)]
    rw [this];exact h (i + 1) (by omega)
def n5:Nat → (Nat → Int) → Int
 | 0,_=>1
 | n + 1,f=>f 0 * n5 n fun i=>f (i + 1)
theorem FC {n:Nat} {f:Nat → Int} (h:∀ i,i < n → 0 ≤ f i):0 ≤ n5 n f:=by
 induction n generalizing f with
 | zero=>exact Int.zero_le_ofNat 1
 | succ n ih=>exact Int.mul_nonneg (h 0 (by omega)) (ih fun i hi=>h (i + 1) (by omega))
theorem Mc {n:Nat} {f g:Nat → Int} (h0:∀ i,i < n → 0 ≤ f i) (h:∀ i,i < n → f i ≤ g i):n5 n f ≤ n5 n g:=by
 induction n generalizing f g with
 | zero=>exact Int.le_refl _
 | succ n ih =>
   have h1:=ih (f:=fun i=>f (i + 1)) (g:=fun i=>g (i + 1)) (fun i hi=>h0 (i + 1) (by omega)) fun i hi=>h (i + 1) (by omega)
   exact Int.mul_le_mul (h 0 (by omega)) h1 (FC fun i hi=>h0 (i + 1) (by omega)) (Int.le_trans (h0 0 (by omega)) (h 0 (by omega)))
theorem OO (n k:Nat) (hk:k < n + 1) (f:Nat → Int):B8 n (fun j=>f (G2 k j)) + f k = B8 (n + 1) f:=by
 induction n with
 | zero=>have:k = 0:=by omega
         subst this;simp [B8]
 | succ n ih =>
   by_cases e:k = n + 1
   ·subst e
    simp only [B8]
    have h1:∀ m,m ≤ n + 1 → B8 m (fun j=>f (G2 (n + 1) j)) = B8 m f:=fun m hm=>E8 fun i hi=>by
     have:G2 (n + 1) i = i:=by unfold G2;rw [if_pos (by omega)]
     rw [this]
    have h2:=h1 (n + 1) (Nat.le_refl _)
    simp only [B8] at h2
    omega
   ·have h1:=ih (by omega)
    simp only [B8] at h1 ⊢
    have:G2 k n = n + 1:=by unfold G2;rw [if_neg (by omega)]
    rw [this]
    omega
theorem OP (n:Nat) (a:Nat → Nat → Int):((C5 n a).natAbs:Int) ≤ n5 n fun i=>B8 n fun j=>((a i j).natAbs:Int):=by
 induction n generalizing a with
 | zero=>simp [C5,n5]
 | succ n ih =>
   simp only [C5,n5]
   refine Int.le_trans (Mb _ _) ?_
   rw [Int.mul_comm, ← O7]
   refine OM fun k hk=>?_
   rw [Int.natAbs_mul,Int.natAbs_mul,ON,Nat.one_mul,Int.natCast_mul,Int.mul_comm]
   refine Int.mul_le_mul_of_nonneg_right ?_ (Int.natCast_nonneg _)
   refine Int.le_trans (ih _) (Mc (fun i hi=>Ca fun j hj=>Int.natCast_nonneg _) fun i hi=>?_)
   have h1:=OO n k hk fun j=>((a (i + 1) j).natAbs:Int)
   have h2:(0:Int) ≤ ((a (i + 1) k).natAbs:Int):=Int.natCast_nonneg _
   omega
end Go.Proofs.YtbhegmcbpolemaaDoor

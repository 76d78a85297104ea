/- Determinants: plain. -/
import Derived.Test.YtbhegmcbpolemaaDoorSAvTy
set_option linter.unusedVariables false
set_option linter.unnecessarySimpa false
set_option linter.unusedSimpArgs false
namespace Go.Proofs.YtbhegmcbpolemaaDoor
open Go Go.Av
attribute [local irreducible] E3 B5 F2 F0 DQ F5 G8 St.le B6 D3
set_option maxRecDepth 100000
def B7:Nat → (Nat → Int) → Int
 | 0,_=>0
 | n + 1,f=>B7 n f + f n
theorem D8 {n:Nat} {f g:Nat → Int} (h:∀ i,i < n → f i = g i):B7 n f = B7 n g:=by
 induction n with
 | zero=>rfl
 | succ n ih=>simp only [B7];rw [ih fun i hi=>h i (by omega),h n (by omega)]
theorem Ha (n:Nat) (f g:Nat → Int):B7 n (fun i=>f i + g i) = B7 n f + B7 n g:=by
 induction n with
 | zero=>rfl
 | succ n ih=>simp only [B7,ih];omega
theorem L6 (n:Nat) (c:Int) (f:Nat → Int):B7 n (fun i=>c * f i) = c * B7 n f:=by
 induction n with
 | zero=>simp [B7]
 | succ n ih=>simp only [B7,ih,Int.mul_add]
theorem Fq (n:Nat):B7 n (fun _=>0) = 0:=by
 induction n with
 | zero=>rfl
 | succ n ih=>simp only [B7,ih];rfl
theorem Hb {n:Nat} {f:Nat → Int} (h:∀ i,i < n → f i = 0):B7 n f = 0:=by rw [D8 h,Fq]
theorem NF {n:Nat} {f:Nat → Int} (k:Nat) (hk:k < n) (h:∀ i,i < n → i ≠ k → f i = 0):B7 n f = f k:=by
 induction n with
 | zero=>omega
 | succ n ih =>
   simp only [B7]
   by_cases e:k = n
   ·subst e
    rw [Hb fun i hi=>h i (by omega) (by omega)];omega
   ·rw [ih (by omega) fun i hi hne=>h i (by omega) hne,h n (by omega) (by omega)];omega
theorem NG {n:Nat} {f:Nat → Int} (k:Nat) (hk:k + 1 < n) (hs:f k + f (k + 1) = 0) (h:∀ i,i < n → i ≠ k → i ≠ k + 1 → f i = 0):B7 n f = 0:=by
 induction n with
 | zero=>omega
 | succ n ih =>
   simp only [B7]
   by_cases e:k + 1 = n
   ·subst e
    rw [NF k (by omega) fun i hi hne=>h i (by omega) hne (by omega)];omega
   ·rw [ih (by omega) fun i hi h1 h2=>h i (by omega) h1 h2,h n (by omega) (by omega) (by omega)];rfl
theorem LO (n m:Nat) (f:Nat → Nat → Int):B7 n (fun i=>B7 m (f i)) = B7 m (fun j=>B7 n fun i=>f i j):=by
 induction n with
 | zero=>simp only [B7];rw [Fq]
 | succ n ih=>simp only [B7];rw [ih, ← Ha]
theorem DI {n:Nat} {f:Nat → Int} (h:∀ i,i < n → 0 ≤ f i):0 ≤ B7 n f:=by
 induction n with
 | zero=>exact Int.le_refl _
 | succ n ih =>
   simp only [B7]
   have h1:=ih fun i hi=>h i (by omega)
   have h2:=h n (by omega)
   omega
theorem PH {n:Nat} {f g:Nat → Int} (h:∀ i,i < n → f i ≤ g i):B7 n f ≤ B7 n g:=by
 induction n with
 | zero=>exact Int.le_refl _
 | succ n ih =>
   simp only [B7]
   have h1:=ih fun i hi=>h i (by omega)
   have h2:=h n (by omega)
   omega
theorem NH (n:Nat) (f:Nat → Int):((B7 n f).natAbs:Int) ≤ B7 n (fun i=>((f i).natAbs:Int)):=by
 induction n with
 | zero=>simp [B7]
 | succ n ih=>simp only [B7];omega
def H0 (k j:Nat):Nat:=if j < k then j else j + 1
def I7 (k:Nat):Int:=if k % 2 = 0 then 1 else -1
theorem U4 (k:Nat):I7 (k + 1) = - I7 k:=by
 unfold I7
 by_cases h:k % 2 = 0
 ·rw [if_pos h,if_neg (by omega)]
 ·rw [if_neg h,if_pos (by omega)];rfl
theorem PI (k:Nat):(I7 k).natAbs = 1:=by unfold I7;split <;> rfl
def C9:Nat → (Nat → Nat → Int) → Int
 | 0,_=>1
 | n + 1,a=>B7 (n + 1) fun k=>I7 k * a 0 k * C9 n fun i j=>a (i + 1) (H0 k j)
theorem Qc {k j n:Nat} (hj:j < n):H0 k j < n + 1:=by unfold H0;split <;> omega
theorem I5 {n:Nat} {a b:Nat → Nat → Int} (h:∀ i j,i < n → j < n → a i j = b i j):C9 n a = C9 n b:=by
 induction n generalizing a b with
 | zero=>rfl
 | succ n ih =>
   simp only [C9]
   refine D8 fun k hk=>?_
   rw [h 0 k (by omega) hk,ih fun i j hi hj=>h (i + 1) (H0 k j) (by omega) (Qc hj)]
def E4 (a:Nat → Nat → Int) (k:Nat) (w:Nat → Int):Nat → Nat → Int:=fun i j=>if j = k then w i else a i j
theorem Y5 (a:Nat → Nat → Int) (k:Nat) (w:Nat → Int):(fun i j=>E4 a k w (i + 1) (H0 k j)) = fun i j=>a (i + 1) (H0 k j):=by
 funext i j
 simp only [E4]
 rw [if_neg]
 unfold H0;split <;> omega
theorem BQ {a:Nat → Nat → Int} {k m:Nat} {w:Nat → Int} (h:m ≠ k):(fun i j=>E4 a k w (i + 1) (H0 m j)) = E4 (fun i j=>a (i + 1) (H0 m j)) (if k < m then k else k - 1) (fun i=>w (i + 1)):=by
 funext i j
 simp only [E4]
 have e:H0 m j = k ↔ j = if k < m then k else k - 1:=by
  unfold H0
  constructor
  ·intro h;split at h <;> split <;> omega
  ·intro h;split at h <;> split <;> omega
 by_cases h1:H0 m j = k
 ·rw [if_pos h1,if_pos (e.1 h1)]
 ·rw [if_neg h1,if_neg fun h2=>h1 (e.2 h2)]
theorem AJ (n:Nat) (a:Nat → Nat → Int) (k:Nat) (hk:k < n) (x y:Int) (u v:Nat → Int):C9 n (E4 a k fun i=>x * u i + y * v i) = x * C9 n (E4 a k u) + y * C9 n (E4 a k v):=by
 induction n generalizing a k u v with
 | zero=>omega
 | succ n ih =>
   simp only [C9]
   rw [← L6, ← L6, ← Ha]
   refine D8 fun m hm=>?_
   by_cases e:m = k
   ·subst e
    rw [Y5,Y5,Y5]
    simp only [E4,if_pos]
    grind
   ·rw [BQ e,BQ e,BQ e]
    rw [ih _ (if k < m then k else k - 1) (by split <;> omega)]
    simp only [E4,if_neg e]
    grind
theorem Hc (n:Nat) (a:Nat → Nat → Int) (k:Nat) (hk:k + 1 < n) (h:∀ i,i < n → a i k = a i (k + 1)):C9 n a = 0:=by
 induction n generalizing a k with
 | zero=>omega
 | succ n ih =>
   simp only [C9]
   refine NG k hk ?_ fun m hm h1 h2=>?_
   ·rw [U4,h 0 (by omega)]
    have e:C9 n (fun i j=>a (i + 1) (H0 k j)) = C9 n (fun i j=>a (i + 1) (H0 (k + 1) j)):=I5 fun i j hi hj=>by
     by_cases e:j = k
     ·subst e
      have e1:H0 j j = j + 1:=by unfold H0;rw [if_neg (by omega)]
      have e2:H0 (j + 1) j = j:=by unfold H0;rw [if_pos (by omega)]
      rw [e1,e2];exact (h (i + 1) (by omega)).symm
     ·have:H0 k j = H0 (k + 1) j:=by unfold H0;split <;> split <;> omega
      rw [this]
    rw [e];grind
   ·rw [ih _ (if k < m then k else k - 1) (by split <;> omega) fun i hi=>?_]
    ·rw [Int.mul_zero]
    ·have e1:H0 m (if k < m then k else k - 1) = k:=by unfold H0;(repeat' split) <;> omega
     have e2:H0 m ((if k < m then k else k - 1) + 1) = k + 1:=by unfold H0;(repeat' split) <;> omega
     rw [e1,e2];exact h (i + 1) (by omega)
theorem LP (a:Nat → Nat → Int) (k:Nat):E4 a k (fun i=>a i k) = a:=by
 funext i j
 simp only [E4]
 split
 ·rename_i h;rw [h]
 ·rfl
theorem X4 (a:Nat → Nat → Int) {k m:Nat} (h:k ≠ m) (u v:Nat → Int):E4 (E4 a k u) m v = E4 (E4 a m v) k u:=by
 funext i j
 simp only [E4]
 by_cases e1:j = k <;> by_cases e2:j = m
 ·omega
 ·rw [if_neg e2,if_pos e1,if_pos e1]
 ·rw [if_pos e2,if_neg e1,if_pos e2]
 ·rw [if_neg e2,if_neg e1,if_neg e1,if_neg e2]
theorem p9 (n:Nat) (a:Nat → Nat → Int) (k:Nat) (hk:k < n) (u v:Nat → Int):C9 n (E4 a k fun i=>u i + v i) = C9 n (E4 a k u) + C9 n (E4 a k v):=by
 have:=AJ n a k hk 1 1 u v
 simpa using this
theorem Fs (n:Nat) (a:Nat → Nat → Int) (k:Nat) (hk:k + 1 < n) (u v:Nat → Int):C9 n (E4 (E4 a k u) (k + 1) v) = - C9 n (E4 (E4 a k v) (k + 1) u):=by
 have hz:∀ x:Nat → Int,C9 n (E4 (E4 a k x) (k + 1) x) = 0:=fun x=>Hc n _ k hk fun i _=>by simp [E4]
 have h0:=hz fun i=>u i + v i
 rw [p9 n _ (k + 1) hk,X4 a (by omega:k ≠ k + 1),X4 a (by omega:k ≠ k + 1),p9 n _ k (by omega),p9 n _ k (by omega), ← X4 a (by omega:k ≠ k + 1), ← X4 a (by omega:k ≠ k + 1), ← X4 a (by omega:k ≠ k + 1), ← X4 a (by omega:k ≠ k + 1),hz u,hz v] at h0
 omega
theorem Iu (n d:Nat) (a:Nat → Nat → Int) (k:Nat) (hk:k + 1 + d < n) (h:∀ i,a i k = a i (k + 1 + d)):C9 n a = 0:=by
 induction d generalizing a k with
 | zero=>exact Hc n a k hk fun i _=>h i
 | succ d ih =>
   -- the first one moves by one place
   have e:a = E4 (E4 a k fun i=>a i k) (k + 1) fun i=>a i (k + 1):=by
    funext i j
    simp only [E4]
    split
    ·rename_i e;rw [e]
    ·split
     ·rename_i e;rw [e]
     ·rfl
   rw [e,Fs n a k (by omega)]
   rw [ih _ (k + 1) (by omega) fun i=>?_]
   ·rfl
   ·simp only [E4]
    rw [if_pos trivial,if_neg (by omega),if_neg (by omega),h i]
    congr 1;omega
theorem Hd (n:Nat) (a:Nat → Nat → Int) (k m:Nat) (hk:k < n) (hm:m < n) (hne:k ≠ m) (h:∀ i,a i k = a i m):C9 n a = 0:=by
 rcases Nat.lt_or_gt_of_ne hne with hl | hl
 ·exact Iu n (m - k - 1) a k (by omega) fun i=>by rw [h i];congr 1;omega
 ·exact Iu n (k - m - 1) a m (by omega) fun i=>by rw [← h i];congr 1;omega
theorem NI (n:Nat) (a:Nat → Nat → Int) (k:Nat) (hk:k < n) (m:Nat) (w:Nat → Int) (c:Nat → Nat → Int):C9 n (E4 a k fun i=>B7 m fun j=>w j * c i j) = B7 m fun j=>w j * C9 n (E4 a k fun i=>c i j):=by
 induction m with
 | zero =>
   simp only [B7]
   have:=AJ n a k hk 0 0 (fun _=>0) (fun _=>0)
   simpa using this
 | succ m ih =>
   simp only [B7]
   have:=AJ n a k hk 1 (w m) (fun i=>B7 m fun j=>w j * c i j) (fun i=>c i m)
   simp only [Int.one_mul] at this
   rw [this,ih]
theorem LQ (n:Nat) (a:Nat → Nat → Int) (h:∀ i,i < n → a i n = 0):C9 (n + 1) a = a n n * C9 n a:=by
 induction n generalizing a with
 | zero=>simp [C9,B7,I7]
 | succ n ih =>
   rw [C9]
   rw [B7,h 0 (by omega),Int.mul_zero,Int.zero_mul,Int.add_zero]
   rw [C9, ← L6]
   refine D8 fun k hk=>?_
   rw [ih _ fun i hi=>?_]
   ·have:H0 k n = n + 1:=by unfold H0;rw [if_neg (by omega)]
    rw [this];grind
   ·have:H0 k n = n + 1:=by unfold H0;rw [if_neg (by omega)]
    rw [this];exact h (i + 1) (by omega)
def q8:Nat → (Nat → Int) → Int
 | 0,_=>1
 | n + 1,f=>f 0 * q8 n fun i=>f (i + 1)
theorem Ft {n:Nat} {f:Nat → Int} (h:∀ i,i < n → 0 ≤ f i):0 ≤ q8 n f:=by
 induction n generalizing f with
 | zero=>exact Int.zero_le_ofNat 1
 | succ n ih=>exact Int.mul_nonneg (h 0 (by omega)) (ih fun i hi=>h (i + 1) (by omega))
theorem NJ {n:Nat} {f g:Nat → Int} (h0:∀ i,i < n → 0 ≤ f i) (h:∀ i,i < n → f i ≤ g i):q8 n f ≤ q8 n g:=by
 induction n generalizing f g with
 | zero=>exact Int.le_refl _
 | succ n ih =>
   have h1:=ih (f:=fun i=>f (i + 1)) (g:=fun i=>g (i + 1)) (fun i hi=>h0 (i + 1) (by omega)) fun i hi=>h (i + 1) (by omega)
   exact Int.mul_le_mul (h 0 (by omega)) h1 (Ft fun i hi=>h0 (i + 1) (by omega)) (Int.le_trans (h0 0 (by omega)) (h 0 (by omega)))
theorem PJ (n k:Nat) (hk:k < n + 1) (f:Nat → Int):B7 n (fun j=>f (H0 k j)) + f k = B7 (n + 1) f:=by
 induction n with
 | zero=>have:k = 0:=by omega
         subst this;simp [B7]
 | succ n ih =>
   by_cases e:k = n + 1
   ·subst e
    simp only [B7]
    have h1:∀ m,m ≤ n + 1 → B7 m (fun j=>f (H0 (n + 1) j)) = B7 m f:=fun m hm=>D8 fun i hi=>by
     have:H0 (n + 1) i = i:=by unfold H0;rw [if_pos (by omega)]
     rw [this]
    have h2:=h1 (n + 1) (Nat.le_refl _)
    simp only [B7] at h2
    omega
   ·have h1:=ih (by omega)
    simp only [B7] at h1 ⊢
    have:H0 k n = n + 1:=by unfold H0;rw [if_neg (by omega)]
    rw [this]
    omega
theorem PK (n:Nat) (a:Nat → Nat → Int):((C9 n a).natAbs:Int) ≤ q8 n fun i=>B7 n fun j=>((a i j).natAbs:Int):=by
 induction n generalizing a with
 | zero=>simp [C9,q8]
 | succ n ih =>
   simp only [C9,q8]
   refine Int.le_trans (NH _ _) ?_
   rw [Int.mul_comm, ← L6]
   refine PH fun k hk=>?_
   rw [Int.natAbs_mul,Int.natAbs_mul,PI,Nat.one_mul,Int.natCast_mul,Int.mul_comm]
   refine Int.mul_le_mul_of_nonneg_right ?_ (Int.natCast_nonneg _)
   refine Int.le_trans (ih _) (NJ (fun i hi=>DI fun j hj=>Int.natCast_nonneg _) fun i hi=>?_)
   have h1:=PJ n k hk fun j=>((a (i + 1) j).natAbs:Int)
   have h2:(0:Int) ≤ ((a (i + 1) k).natAbs:Int):=Int.natCast_nonneg _
   omega
end Go.Proofs.YtbhegmcbpolemaaDoor

/- Determinants: plain. -/
import Derived.Test.YtbhegmcbpolemaaDoorRAvTy
set_option linter.unusedVariables false
set_option linter.unnecessarySimpa false
set_option linter.unusedSimpArgs false
namespace Go.Proofs.YtbhegmcbpolemaaDoor
open Go Go.Av
attribute [local irreducible] E2 B3 F6 E9 DQ G2 H3 St.le B4 D7
set_option maxRecDepth 100000
def C1:Nat → (Nat → Int) → Int
 | 0,_=>0
 | n + 1,f=>C1 n f + f n
theorem G8 {n:Nat} {f g:Nat → Int} (h:∀ i,i < n → f i = g i):C1 n f = C1 n g:=by
 induction n with
 | zero=>rfl
 | succ n ih=>simp only [C1];rw [ih fun i hi=>h i (by omega),h n (by omega)]
theorem BI (n:Nat) (f g:Nat → Int):C1 n (fun i=>f i + g i) = C1 n f + C1 n g:=by
 induction n with
 | zero=>rfl
 | succ n ih=>simp only [C1,ih];omega
theorem R6 (n:Nat) (c:Int) (f:Nat → Int):C1 n (fun i=>c * f i) = c * C1 n f:=by
 induction n with
 | zero=>simp [C1]
 | succ n ih=>simp only [C1,ih,Int.mul_add]
theorem FY (n:Nat):C1 n (fun _=>0) = 0:=by
 induction n with
 | zero=>rfl
 | succ n ih=>simp only [C1,ih];rfl
theorem LP {n:Nat} {f:Nat → Int} (h:∀ i,i < n → f i = 0):C1 n f = 0:=by rw [G8 h,FY]
theorem HJ {n:Nat} {f:Nat → Int} (k:Nat) (hk:k < n) (h:∀ i,i < n → i ≠ k → f i = 0):C1 n f = f k:=by
 induction n with
 | zero=>omega
 | succ n ih =>
   simp only [C1]
   by_cases e:k = n
   ·subst e
    rw [LP fun i hi=>h i (by omega) (by omega)];omega
   ·rw [ih (by omega) fun i hi hne=>h i (by omega) hne,h n (by omega) (by omega)];omega
theorem NG {n:Nat} {f:Nat → Int} (k:Nat) (hk:k + 1 < n) (hs:f k + f (k + 1) = 0) (h:∀ i,i < n → i ≠ k → i ≠ k + 1 → f i = 0):C1 n f = 0:=by
 induction n with
 | zero=>omega
 | succ n ih =>
   simp only [C1]
   by_cases e:k + 1 = n
   ·subst e
    rw [HJ k (by omega) fun i hi hne=>h i (by omega) hne (by omega)];omega
   ·rw [ih (by omega) fun i hi h1 h2=>h i (by omega) h1 h2,h n (by omega) (by omega) (by omega)];rfl
theorem LQ (n m:Nat) (f:Nat → Nat → Int):C1 n (fun i=>C1 m (f i)) = C1 m (fun j=>C1 n fun i=>f i j):=by
 induction n with
 | zero=>simp only [C1];rw [FY]
 | succ n ih=>simp only [C1];rw [ih, ← BI]
theorem Cw {n:Nat} {f:Nat → Int} (h:∀ i,i < n → 0 ≤ f i):0 ≤ C1 n f:=by
 induction n with
 | zero=>exact Int.le_refl _
 | succ n ih =>
   simp only [C1]
   have h1:=ih fun i hi=>h i (by omega)
   have h2:=h n (by omega)
   omega
theorem Il {n:Nat} {f g:Nat → Int} (h:∀ i,i < n → f i ≤ g i):C1 n f ≤ C1 n g:=by
 induction n with
 | zero=>exact Int.le_refl _
 | succ n ih =>
   simp only [C1]
   have h1:=ih fun i hi=>h i (by omega)
   have h2:=h n (by omega)
   omega
theorem Jw (n:Nat) (c:Int):C1 n (fun _=>c) = n * c:=by
 induction n with
 | zero=>simp [C1]
 | succ n ih=>simp only [C1,ih];rw [Int.natCast_succ,Int.add_mul];omega
theorem HK (n:Nat) (f:Nat → Int):((C1 n f).natAbs:Int) ≤ C1 n (fun i=>((f i).natAbs:Int)):=by
 induction n with
 | zero=>simp [C1]
 | succ n ih=>simp only [C1];omega
def F0 (k j:Nat):Nat:=if j < k then j else j + 1
def J2 (k:Nat):Int:=if k % 2 = 0 then 1 else -1
theorem U2 (k:Nat):J2 (k + 1) = - J2 k:=by
 unfold J2
 by_cases h:k % 2 = 0
 ·rw [if_pos h,if_neg (by omega)]
 ·rw [if_neg h,if_pos (by omega)];rfl
theorem Io (k:Nat):(J2 k).natAbs = 1:=by unfold J2;split <;> rfl
def C3:Nat → (Nat → Nat → Int) → Int
 | 0,_=>1
 | n + 1,a=>C1 (n + 1) fun k=>J2 k * a 0 k * C3 n fun i j=>a (i + 1) (F0 k j)
theorem HL {k j n:Nat} (hj:j < n):F0 k j < n + 1:=by unfold F0;split <;> omega
theorem I3 {n:Nat} {a b:Nat → Nat → Int} (h:∀ i j,i < n → j < n → a i j = b i j):C3 n a = C3 n b:=by
 induction n generalizing a b with
 | zero=>rfl
 | succ n ih =>
   simp only [C3]
   refine G8 fun k hk=>?_
   rw [h 0 k (by omega) hk,ih fun i j hi hj=>h (i + 1) (F0 k j) (by omega) (HL hj)]
def D6 (a:Nat → Nat → Int) (k:Nat) (w:Nat → Int):Nat → Nat → Int:=fun i j=>if j = k then w i else a i j
theorem Z8 (a:Nat → Nat → Int) (k:Nat) (w:Nat → Int):(fun i j=>D6 a k w (i + 1) (F0 k j)) = fun i j=>a (i + 1) (F0 k j):=by
 funext i j
 simp only [D6]
 rw [if_neg]
 unfold F0;split <;> omega
theorem BJ {a:Nat → Nat → Int} {k m:Nat} {w:Nat → Int} (h:m ≠ k):(fun i j=>D6 a k w (i + 1) (F0 m j)) = D6 (fun i j=>a (i + 1) (F0 m j)) (if k < m then k else k - 1) (fun i=>w (i + 1)):=by
 funext i j
 simp only [D6]
 have e:F0 m j = k ↔ j = if k < m then k else k - 1:=by
  unfold F0
  constructor
  ·intro h;split at h <;> split <;> omega
  ·intro h;split at h <;> split <;> omega
 by_cases h1:F0 m j = k
 ·rw [if_pos h1,if_pos (e.1 h1)]
 ·rw [if_neg h1,if_neg fun h2=>h1 (e.2 h2)]
theorem X9 (n:Nat) (a:Nat → Nat → Int) (k:Nat) (hk:k < n) (x y:Int) (u v:Nat → Int):C3 n (D6 a k fun i=>x * u i + y * v i) = x * C3 n (D6 a k u) + y * C3 n (D6 a k v):=by
 induction n generalizing a k u v with
 | zero=>omega
 | succ n ih =>
   simp only [C3]
   rw [← R6, ← R6, ← BI]
   refine G8 fun m hm=>?_
   by_cases e:m = k
   ·subst e
    rw [Z8,Z8,Z8]
    simp only [D6,if_pos]
    grind
   ·rw [BJ e,BJ e,BJ e]
    rw [ih _ (if k < m then k else k - 1) (by split <;> omega)]
    simp only [D6,if_neg e]
    grind
theorem HM (n:Nat) (a:Nat → Nat → Int) (k:Nat) (hk:k + 1 < n) (h:∀ i,i < n → a i k = a i (k + 1)):C3 n a = 0:=by
 induction n generalizing a k with
 | zero=>omega
 | succ n ih =>
   simp only [C3]
   refine NG k hk ?_ fun m hm h1 h2=>?_
   ·rw [U2,h 0 (by omega)]
    have e:C3 n (fun i j=>a (i + 1) (F0 k j)) = C3 n (fun i j=>a (i + 1) (F0 (k + 1) j)):=I3 fun i j hi hj=>by
     by_cases e:j = k
     ·subst e
      have e1:F0 j j = j + 1:=by unfold F0;rw [if_neg (by omega)]
      have e2:F0 (j + 1) j = j:=by unfold F0;rw [if_pos (by omega)]
      rw [e1,e2];exact (h (i + 1) (by omega)).symm
     ·have:F0 k j = F0 (k + 1) j:=by unfold F0;split <;> split <;> omega
      rw [this]
    rw [e];grind
   ·rw [ih _ (if k < m then k else k - 1) (by split <;> omega) fun i hi=>?_]
    ·rw [Int.mul_zero]
    ·have e1:F0 m (if k < m then k else k - 1) = k:=by unfold F0;(repeat' split) <;> omega
     have e2:F0 m ((if k < m then k else k - 1) + 1) = k + 1:=by unfold F0;(repeat' split) <;> omega
     rw [e1,e2];exact h (i + 1) (by omega)
theorem FZ (a:Nat → Nat → Int) (k:Nat):D6 a k (fun i=>a i k) = a:=by
 funext i j
 simp only [D6]
 split
 ·rename_i h;rw [h]
 ·rfl
theorem Y0 (a:Nat → Nat → Int) {k m:Nat} (h:k ≠ m) (u v:Nat → Int):D6 (D6 a k u) m v = D6 (D6 a m v) k u:=by
 funext i j
 simp only [D6]
 by_cases e1:j = k <;> by_cases e2:j = m
 ·omega
 ·rw [if_neg e2,if_pos e1,if_pos e1]
 ·rw [if_pos e2,if_neg e1,if_pos e2]
 ·rw [if_neg e2,if_neg e1,if_neg e1,if_neg e2]
theorem p0 (n:Nat) (a:Nat → Nat → Int) (k:Nat) (hk:k < n) (u v:Nat → Int):C3 n (D6 a k fun i=>u i + v i) = C3 n (D6 a k u) + C3 n (D6 a k v):=by
 have:=X9 n a k hk 1 1 u v
 simpa using this
theorem Fa (n:Nat) (a:Nat → Nat → Int) (k:Nat) (hk:k + 1 < n) (u v:Nat → Int):C3 n (D6 (D6 a k u) (k + 1) v) = - C3 n (D6 (D6 a k v) (k + 1) u):=by
 have hz:∀ x:Nat → Int,C3 n (D6 (D6 a k x) (k + 1) x) = 0:=fun x=>HM n _ k hk fun i _=>by simp [D6]
 have h0:=hz fun i=>u i + v i
 rw [p0 n _ (k + 1) hk,Y0 a (by omega:k ≠ k + 1),Y0 a (by omega:k ≠ k + 1),p0 n _ k (by omega),p0 n _ k (by omega), ← Y0 a (by omega:k ≠ k + 1), ← Y0 a (by omega:k ≠ k + 1), ← Y0 a (by omega:k ≠ k + 1), ← Y0 a (by omega:k ≠ k + 1),hz u,hz v] at h0
 omega
theorem Ip (n d:Nat) (a:Nat → Nat → Int) (k:Nat) (hk:k + 1 + d < n) (h:∀ i,a i k = a i (k + 1 + d)):C3 n a = 0:=by
 induction d generalizing a k with
 | zero=>exact HM n a k hk fun i _=>h i
 | succ d ih =>
   -- the first one moves by one place
   have e:a = D6 (D6 a k fun i=>a i k) (k + 1) fun i=>a i (k + 1):=by
    funext i j
    simp only [D6]
    split
    ·rename_i e;rw [e]
    ·split
     ·rename_i e;rw [e]
     ·rfl
   rw [e,Fa n a k (by omega)]
   rw [ih _ (k + 1) (by omega) fun i=>?_]
   ·rfl
   ·simp only [D6]
    rw [if_pos trivial,if_neg (by omega),if_neg (by omega),h i]
    congr 1;omega
theorem DN (n:Nat) (a:Nat → Nat → Int) (k m:Nat) (hk:k < n) (hm:m < n) (hne:k ≠ m) (h:∀ i,a i k = a i m):C3 n a = 0:=by
 rcases Nat.lt_or_gt_of_ne hne with hl | hl
 ·exact Ip n (m - k - 1) a k (by omega) fun i=>by rw [h i];congr 1;omega
 ·exact Ip n (k - m - 1) a m (by omega) fun i=>by rw [← h i];congr 1;omega
theorem NH (n:Nat) (a:Nat → Nat → Int) (k:Nat) (hk:k < n) (m:Nat) (w:Nat → Int) (c:Nat → Nat → Int):C3 n (D6 a k fun i=>C1 m fun j=>w j * c i j) = C1 m fun j=>w j * C3 n (D6 a k fun i=>c i j):=by
 induction m with
 | zero =>
   simp only [C1]
   have:=X9 n a k hk 0 0 (fun _=>0) (fun _=>0)
   simpa using this
 | succ m ih =>
   simp only [C1]
   have:=X9 n a k hk 1 (w m) (fun i=>C1 m fun j=>w j * c i j) (fun i=>c i m)
   simp only [Int.one_mul] at this
   rw [this,ih]
theorem LR (n:Nat) (a:Nat → Nat → Int) (h:∀ i,i < n → a i n = 0):C3 (n + 1) a = a n n * C3 n a:=by
 induction n generalizing a with
 | zero=>simp [C3,C1,J2]
 | succ n ih =>
   rw [C3]
   rw [C1,h 0 (by omega),Int.mul_zero,Int.zero_mul,Int.add_zero]
   rw [C3, ← R6]
   refine G8 fun k hk=>?_
   rw [ih _ fun i hi=>?_]
   ·have:F0 k n = n + 1:=by unfold F0;rw [if_neg (by omega)]
    rw [this];grind
   ·have:F0 k n = n + 1:=by unfold F0;rw [if_neg (by omega)]
    rw [this];exact h (i + 1) (by omega)
def J0:Nat → (Nat → Int) → Int
 | 0,_=>1
 | n + 1,f=>f 0 * J0 n fun i=>f (i + 1)
theorem Fb {n:Nat} {f:Nat → Int} (h:∀ i,i < n → 0 ≤ f i):0 ≤ J0 n f:=by
 induction n generalizing f with
 | zero=>exact Int.zero_le_ofNat 1
 | succ n ih=>exact Int.mul_nonneg (h 0 (by omega)) (ih fun i hi=>h (i + 1) (by omega))
theorem NI {n:Nat} {f g:Nat → Int} (h0:∀ i,i < n → 0 ≤ f i) (h:∀ i,i < n → f i ≤ g i):J0 n f ≤ J0 n g:=by
 induction n generalizing f g with
 | zero=>exact Int.le_refl _
 | succ n ih =>
   have h1:=ih (f:=fun i=>f (i + 1)) (g:=fun i=>g (i + 1)) (fun i hi=>h0 (i + 1) (by omega)) fun i hi=>h (i + 1) (by omega)
   exact Int.mul_le_mul (h 0 (by omega)) h1 (Fb fun i hi=>h0 (i + 1) (by omega)) (Int.le_trans (h0 0 (by omega)) (h 0 (by omega)))
theorem PA (n k:Nat) (hk:k < n + 1) (f:Nat → Int):C1 n (fun j=>f (F0 k j)) + f k = C1 (n + 1) f:=by
 induction n with
 | zero=>have:k = 0:=by omega
         subst this;simp [C1]
 | succ n ih =>
   by_cases e:k = n + 1
   ·subst e
    simp only [C1]
    have h1:∀ m,m ≤ n + 1 → C1 m (fun j=>f (F0 (n + 1) j)) = C1 m f:=fun m hm=>G8 fun i hi=>by
     have:F0 (n + 1) i = i:=by unfold F0;rw [if_pos (by omega)]
     rw [this]
    have h2:=h1 (n + 1) (Nat.le_refl _)
    simp only [C1] at h2
    omega
   ·have h1:=ih (by omega)
    simp only [C1] at h1 ⊢
    have:F0 k n = n + 1:=by unfold F0;rw [if_neg (by omega)]
    rw [this]
    omega
theorem PB (n:Nat) (a:Nat → Nat → Int):((C3 n a).natAbs:Int) ≤ J0 n fun i=>C1 n fun j=>((a i j).natAbs:Int):=by
 induction n generalizing a with
 | zero=>simp [C3,J0]
 | succ n ih =>
   simp only [C3,J0]
   refine Int.le_trans (HK _ _) ?_
   rw [Int.mul_comm, ← R6]
   refine Il fun k hk=>?_
   rw [Int.natAbs_mul,Int.natAbs_mul,Io,Nat.one_mul,Int.natCast_mul,Int.mul_comm]
   refine Int.mul_le_mul_of_nonneg_right ?_ (Int.natCast_nonneg _)
   refine Int.le_trans (ih _) (NI (fun i hi=>Cw fun j hj=>Int.natCast_nonneg _) fun i hi=>?_)
   have h1:=PA n k hk fun j=>((a (i + 1) j).natAbs:Int)
   have h2:(0:Int) ≤ ((a (i + 1) k).natAbs:Int):=Int.natCast_nonneg _
   omega
def CJ:Nat → Int
 | 0=>1
 | n + 1=>(n + 1:Nat) * CJ n
theorem NJ (n k:Nat) (hk:k < n + 1) (f:Nat → Int):J0 n (fun j=>f (F0 k j)) * f k = J0 (n + 1) f:=by
 induction n generalizing k f with
 | zero=>have:k = 0:=by omega
         subst this;simp [J0]
 | succ n ih =>
   cases k with
   | zero =>
     have e:∀ j,F0 0 j = j + 1:=fun j=>rfl
     simp only [e]
     simp only [J0];grind
   | succ k =>
     have h1:=ih k (by omega) fun j=>f (j + 1)
     have e:∀ j,F0 (k + 1) (j + 1) = F0 k j + 1:=fun j=>by unfold F0;split <;> split <;> omega
     have e0:F0 (k + 1) 0 = 0:=rfl
     rw [J0,J0]
     simp only [e,e0]
     rw [← h1];grind
theorem Er (n:Nat) (a:Nat → Nat → Int) (r c:Nat → Int) (hr:∀ i,i < n → 0 ≤ r i) (hc:∀ i,i < n → 0 ≤ c i) (h:∀ i j,i < n → j < n → ((a i j).natAbs:Int) ≤ r i * c j):((C3 n a).natAbs:Int) ≤ CJ n * (J0 n r * J0 n c):=by
 induction n generalizing a r c with
 | zero=>simp [C3,J0,CJ]
 | succ n ih =>
   rw [C3]
   refine Int.le_trans (HK _ _) ?_
   refine Int.le_trans (Il (g:=fun _=>CJ n * (J0 (n + 1) r * J0 (n + 1) c)) fun k hk=>?_) ?_
   ·rw [Int.natAbs_mul,Int.natAbs_mul,Io,Nat.one_mul,Int.natCast_mul]
    have h1:=ih (fun i j=>a (i + 1) (F0 k j)) (fun i=>r (i + 1)) (fun j=>c (F0 k j)) (fun i hi=>hr _ (by omega)) (fun j hj=>hc _ (HL hj)) fun i j hi hj=>h _ _ (by omega) (HL hj)
    have h2:=h 0 k (by omega) hk
    have h3:=NJ n k hk c
    refine Int.le_trans (Int.mul_le_mul h2 h1 (Int.natCast_nonneg _) (Int.mul_nonneg (hr 0 (by omega)) (hc k hk))) ?_
    rw [← h3]
    simp only [J0]
    exact Int.le_of_eq (by grind)
   ·rw [Jw]
    simp only [CJ]
    exact Int.le_of_eq (by grind)
end Go.Proofs.YtbhegmcbpolemaaDoor

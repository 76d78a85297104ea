/- Determinants: rows as columns; systems of equations. -/
import Derived.Test.YtbhegmcbpolemaaDoorRJp4
set_option linter.unusedVariables false
set_option linter.unnecessarySimpa false
set_option linter.unusedSimpArgs false
namespace Go.Proofs.YtbhegmcbpolemaaDoor
open Go Go.Av
attribute [local irreducible] E2 B3 F6 E9 DQ G2 H3 St.le B4 D7
set_option maxRecDepth 100000
theorem ET (n:Nat) (f:Nat → Int):C1 (n + 1) f = f 0 + C1 n fun j=>f (j + 1):=by
 induction n with
 | zero=>simp [C1]
 | succ n ih=>rw [C1,ih,C1];omega
theorem HR (k j:Nat):F0 (k + 1) (j + 1) = F0 k j + 1:=by unfold F0;split <;> split <;> omega
theorem NV (n:Nat) (a:Nat → Nat → Int):C3 (n + 1) a = C1 (n + 1) fun i=>J2 i * a i 0 * C3 n fun i' j=>a (F0 i i') (j + 1):=by
 induction n generalizing a with
 | zero=>simp [C3,C1]
 | succ n ih =>
   rw [C3,ET (n + 1),ET (n + 1)]
   have e0:(fun i j=>a (i + 1) (F0 0 j)) = fun i' j=>a (F0 0 i') (j + 1):=rfl
   rw [e0]
   congr 1
   have h1:∀ k,J2 (k + 1) * a 0 (k + 1) * C3 (n + 1) (fun i j=>a (i + 1) (F0 (k + 1) j)) = C1 (n + 1) fun i=>J2 (k + 1) * J2 i * a 0 (k + 1) * a (i + 1) 0 * C3 n fun i' j=>a (F0 i i' + 1) (F0 k j + 1):=fun k=>by
    rw [ih, ← R6]
    refine G8 fun i _=>?_
    have e1:F0 (k + 1) 0 = 0:=rfl
    rw [e1]
    simp only [HR]
    grind
   have h2:∀ i,J2 (i + 1) * a (i + 1) 0 * C3 (n + 1) (fun i' j=>a (F0 (i + 1) i') (j + 1)) = C1 (n + 1) fun k=>J2 (k + 1) * J2 i * a 0 (k + 1) * a (i + 1) 0 * C3 n fun i' j=>a (F0 i i' + 1) (F0 k j + 1):=fun i=>by
    rw [C3, ← R6]
    refine G8 fun k _=>?_
    have e1:F0 (i + 1) 0 = 0:=rfl
    rw [e1]
    simp only [HR]
    rw [U2,U2]
    grind
   rw [G8 fun k _=>h1 k,G8 fun i _=>h2 i]
   exact LQ _ _ _
theorem PL (n:Nat) (a:Nat → Nat → Int):C3 n (fun i j=>a j i) = C3 n a:=by
 induction n generalizing a with
 | zero=>rfl
 | succ n ih =>
   rw [NV n a,C3]
   refine G8 fun k _=>?_
   rw [← ih fun i' j=>a (F0 k i') (j + 1)]
theorem Le (n:Nat) (a:Nat → Nat → Int) (k m:Nat) (hk:k < n) (hm:m < n) (hne:k ≠ m) (h:∀ i,a k i = a m i):C3 n a = 0:=by
 rw [← PL]
 exact DN n _ k m hk hm hne h
theorem PM (a b:Nat):J2 (a + b) = J2 a * J2 b:=by
 induction b with
 | zero=>simp [J2]
 | succ b ih=>rw [← Nat.add_assoc,U2,U2,ih];grind
theorem Lf (n:Nat) (g:Nat → Nat → Int) (b:Nat → Int) (k d:Nat) (h:k + d < n) :
  C3 n (fun i j=>if j < k then g i j else if j < k + d then g i (j + 1) else if j = k + d then b i else g i j) = J2 d * C3 n (D6 g k b):=by
 induction d with
 | zero =>
   rw [show J2 0 = 1 by rfl,Int.one_mul]
   refine I3 fun i j _ _=>?_
   simp only [D6]
   split
   ·rw [if_neg (by omega)]
   ·rw [if_neg (by omega),Nat.add_zero]
 | succ d ih =>
   rw [U2,Int.neg_mul, ← ih (by omega)]
   let M:Nat → Nat → Int:=fun i j=>if j < k then g i j else if j < k + d then g i (j + 1) else g i j
   have e1:(fun i j=>if j < k then g i j else if j < k + (d + 1) then g i (j + 1) else if j = k + (d + 1) then b i else g i j) = D6 (D6 M (k + d) fun i=>g i (k + d + 1)) (k + d + 1) b:=by
    funext i j
    simp only [D6,M]
    (repeat' split) <;> first | rfl | omega | (congr 1;omega)
   have e2:(fun i j=>if j < k then g i j else if j < k + d then g i (j + 1) else if j = k + d then b i else g i j) = D6 (D6 M (k + d) b) (k + d + 1) fun i=>g i (k + d + 1):=by
    funext i j
    simp only [D6,M]
    (repeat' split) <;> first | rfl | omega | (subst_vars;rfl) | (congr 1;omega)
   rw [e1,e2]
   exact Fa n M (k + d) (by omega) _ _
theorem EU (n:Nat) (g:Nat → Nat → Int) (b:Nat → Int) (i:Nat) (hi:i < n):C1 n (fun k=>g i k * C3 n (D6 g k b)) = b i * C3 n g:=by
 -- the row once more,ahead of the matrix with b as its last column
 let B:Nat → Nat → Int:=fun r j=>if j < n then g (if r = 0 then i else r - 1) j else b (if r = 0 then i else r - 1)
 have h0:C3 (n + 1) B = 0:=Le (n + 1) B 0 (i + 1) (by omega) (by omega) (by omega) fun j=>by simp [B]
 rw [C3,C1] at h0
 have hl:C3 n (fun r j=>B (r + 1) (F0 n j)) = C3 n g:=I3 fun r j hr hj=>by
  have:F0 n j = j:=by unfold F0;rw [if_pos hj]
  simp [B,this,hj]
 have hk:∀ k,k < n → J2 k * B 0 k * C3 n (fun r j=>B (r + 1) (F0 k j)) = J2 (n - 1) * (g i k * C3 n (D6 g k b)):=fun k hk=>by
  have h1:=Lf n g b k (n - 1 - k) (by omega)
  have e:C3 n (fun r j=>B (r + 1) (F0 k j)) = C3 n (fun i j=>if j < k then g i j else if j < k + (n - 1 - k) then g i (j + 1) else if j = k + (n - 1 - k) then b i else g i j):=I3 fun r j hr hj=>by
   simp only [B,F0]
   (repeat' split) <;> first | rfl | omega
  rw [e,h1]
  have h2:J2 (n - 1) = J2 k * J2 (n - 1 - k):=by rw [← PM];congr 1;omega
  have h3:B 0 k = g i k:=by simp [B,hk]
  rw [h2,h3];grind
 rw [G8 hk,R6,hl] at h0
 have h4:B 0 n = b i:=by simp [B]
 have h5:J2 n = - J2 (n - 1):=by rw [← U2];congr 1;omega
 have h6:J2 (n - 1) * J2 (n - 1) = 1:=by unfold J2;split <;> rfl
 rw [h4,h5] at h0
 generalize C1 n (fun k=>g i k * C3 n (D6 g k b)) = S at *
 generalize C3 n g = D at *
 generalize J2 (n - 1) = s at *
 have:s * (s * S + -s * b i * D) = 0:=by rw [h0];exact Int.mul_zero _
 grind
theorem IG (n:Nat) (w:Nat → Nat → Int) (hD:C3 n w ≠ 0):C3 (n + 1) w = C3 n w * w n n - C1 n fun k=>w n k * C3 n (D6 w k fun i=>w i n):=by
 let D:=C3 n w
 let X:Nat → Int:=fun k=>C3 n (D6 w k fun i=>w i n)
 let ρ:Int:=D * w n n - C1 n fun k=>w n k * X k
 have hs:=EU n w fun i=>w i n
 -- D times the last column
 have h1:D * C3 (n + 1) w = C3 (n + 1) (D6 w n fun i=>D * w i n):=by
  have:=X9 (n + 1) w n (by omega) D 0 (fun i=>w i n) (fun _=>0)
  simp only [Int.zero_mul,Int.add_zero,FZ] at this
  exact this.symm
 have h2:C3 (n + 1) (D6 w n fun i=>D * w i n) = C3 (n + 1) (D6 w n fun i=>C1 n (fun j=>X j * w i j) + if i = n then ρ else 0):=I3 fun i j hi hj=>by
  simp only [D6]
  split
  ·by_cases e:i = n
   ·subst e
    rw [if_pos rfl]
    have:C1 i (fun j=>X j * w i j) = C1 i fun k=>w i k * X k:=G8 fun k _=>Int.mul_comm _ _
    rw [this]
    show _ = _ + (D * w i i - _)
    omega
   ·rw [if_neg e,Int.add_zero]
    have:=hs i (by omega)
    have e2:C1 n (fun j=>X j * w i j) = C1 n fun k=>w i k * X k:=G8 fun k _=>Int.mul_comm _ _
    rw [e2]
    show D * w i n = _
    rw [this];exact Int.mul_comm _ _
  ·rfl
 have h3:=p0 (n + 1) w n (by omega) (fun i=>C1 n fun j=>X j * w i j) (fun i=>if i = n then ρ else 0)
 have h4:C3 (n + 1) (D6 w n fun i=>C1 n fun j=>X j * w i j) = 0:=by
  rw [NH (n + 1) w n (by omega)]
  exact LP fun j hj=>by
   rw [DN (n + 1) _ n j (by omega) (by omega) (by omega) fun i=>?_,Int.mul_zero]
   simp only [D6]
   rw [if_pos trivial,if_neg (by omega)]
 have h5:C3 (n + 1) (D6 w n fun i=>if i = n then ρ else 0) = ρ * D:=by
  rw [LR n _ fun i hi=>by simp only [D6];rw [if_pos trivial,if_neg (by omega)]]
  congr 1
  ·simp [D6]
  ·refine I3 fun i j hi hj=>?_
   simp only [D6];rw [if_neg (by omega)]
 rw [h2,h3,h4,h5,Int.zero_add,Int.mul_comm] at h1
 exact Int.eq_of_mul_eq_mul_right hD h1
theorem j9 {α:Type} (l:List α) (f g:α → Int):C0 l (fun x=>f x + g x) = C0 l f + C0 l g:=by
 induction l with
 | nil=>rfl
 | cons x r ih=>simp only [C0,ih];omega
theorem k0 {α:Type} (l:List α) (c:Int) (f:α → Int):C0 l (fun x=>c * f x) = c * C0 l f:=by
 induction l with
 | nil=>simp [C0]
 | cons x r ih=>simp only [C0,ih,Int.mul_add]
end Go.Proofs.YtbhegmcbpolemaaDoor

/- Determinants: rows as columns; systems of equations. -/
import Derived.Test.YtbhegmcbpolemaaDoorSJp4
set_option linter.unusedVariables false
set_option linter.unnecessarySimpa false
set_option linter.unusedSimpArgs false
namespace Go.Proofs.YtbhegmcbpolemaaDoor
open Go Go.Av
attribute [local irreducible] E3 B5 F2 F0 DQ F5 G8 St.le B6 D3
set_option maxRecDepth 100000
theorem Ef (n:Nat) (f:Nat → Int):B7 (n + 1) f = f 0 + B7 n fun j=>f (j + 1):=by
 induction n with
 | zero=>simp [B7]
 | succ n ih=>rw [B7,ih,B7];omega
theorem Hg (k j:Nat):H0 (k + 1) (j + 1) = H0 k j + 1:=by unfold H0;split <;> split <;> omega
theorem NW (n:Nat) (a:Nat → Nat → Int):C9 (n + 1) a = B7 (n + 1) fun i=>I7 i * a i 0 * C9 n fun i' j=>a (H0 i i') (j + 1):=by
 induction n generalizing a with
 | zero=>simp [C9,B7]
 | succ n ih =>
   rw [C9,Ef (n + 1),Ef (n + 1)]
   have e0:(fun i j=>a (i + 1) (H0 0 j)) = fun i' j=>a (H0 0 i') (j + 1):=rfl
   rw [e0]
   congr 1
   have h1:∀ k,I7 (k + 1) * a 0 (k + 1) * C9 (n + 1) (fun i j=>a (i + 1) (H0 (k + 1) j)) = B7 (n + 1) fun i=>I7 (k + 1) * I7 i * a 0 (k + 1) * a (i + 1) 0 * C9 n fun i' j=>a (H0 i i' + 1) (H0 k j + 1):=fun k=>by
    rw [ih, ← L6]
    refine D8 fun i _=>?_
    have e1:H0 (k + 1) 0 = 0:=rfl
    rw [e1]
    simp only [Hg]
    grind
   have h2:∀ i,I7 (i + 1) * a (i + 1) 0 * C9 (n + 1) (fun i' j=>a (H0 (i + 1) i') (j + 1)) = B7 (n + 1) fun k=>I7 (k + 1) * I7 i * a 0 (k + 1) * a (i + 1) 0 * C9 n fun i' j=>a (H0 i i' + 1) (H0 k j + 1):=fun i=>by
    rw [C9, ← L6]
    refine D8 fun k _=>?_
    have e1:H0 (i + 1) 0 = 0:=rfl
    rw [e1]
    simp only [Hg]
    rw [U4,U4]
    grind
   rw [D8 fun k _=>h1 k,D8 fun i _=>h2 i]
   exact LO _ _ _
theorem PX (n:Nat) (a:Nat → Nat → Int):C9 n (fun i j=>a j i) = C9 n a:=by
 induction n generalizing a with
 | zero=>rfl
 | succ n ih =>
   rw [NW n a,C9]
   refine D8 fun k _=>?_
   rw [← ih fun i' j=>a (H0 k i') (j + 1)]
theorem Le (n:Nat) (a:Nat → Nat → Int) (k m:Nat) (hk:k < n) (hm:m < n) (hne:k ≠ m) (h:∀ i,a k i = a m i):C9 n a = 0:=by
 rw [← PX]
 exact Hd n _ k m hk hm hne h
theorem PY (a b:Nat):I7 (a + b) = I7 a * I7 b:=by
 induction b with
 | zero=>simp [I7]
 | succ b ih=>rw [← Nat.add_assoc,U4,U4,ih];grind
theorem Lf (n:Nat) (g:Nat → Nat → Int) (b:Nat → Int) (k d:Nat) (h:k + d < n) :
  C9 n (fun i j=>if j < k then g i j else if j < k + d then g i (j + 1) else if j = k + d then b i else g i j) = I7 d * C9 n (E4 g k b):=by
 induction d with
 | zero =>
   rw [show I7 0 = 1 by rfl,Int.one_mul]
   refine I5 fun i j _ _=>?_
   simp only [E4]
   split
   ·rw [if_neg (by omega)]
   ·rw [if_neg (by omega),Nat.add_zero]
 | succ d ih =>
   rw [U4,Int.neg_mul, ← ih (by omega)]
   let M:Nat → Nat → Int:=fun i j=>if j < k then g i j else if j < k + d then g i (j + 1) else g i j
   have e1:(fun i j=>if j < k then g i j else if j < k + (d + 1) then g i (j + 1) else if j = k + (d + 1) then b i else g i j) = E4 (E4 M (k + d) fun i=>g i (k + d + 1)) (k + d + 1) b:=by
    funext i j
    simp only [E4,M]
    (repeat' split) <;> first | rfl | omega | (congr 1;omega)
   have e2:(fun i j=>if j < k then g i j else if j < k + d then g i (j + 1) else if j = k + d then b i else g i j) = E4 (E4 M (k + d) b) (k + d + 1) fun i=>g i (k + d + 1):=by
    funext i j
    simp only [E4,M]
    (repeat' split) <;> first | rfl | omega | (subst_vars;rfl) | (congr 1;omega)
   rw [e1,e2]
   exact Fs n M (k + d) (by omega) _ _
theorem Eg (n:Nat) (g:Nat → Nat → Int) (b:Nat → Int) (i:Nat) (hi:i < n):B7 n (fun k=>g i k * C9 n (E4 g k b)) = b i * C9 n g:=by
 -- the row once more,ahead of the matrix with b as its last column
 let B:Nat → Nat → Int:=fun r j=>if j < n then g (if r = 0 then i else r - 1) j else b (if r = 0 then i else r - 1)
 have h0:C9 (n + 1) B = 0:=Le (n + 1) B 0 (i + 1) (by omega) (by omega) (by omega) fun j=>by simp [B]
 rw [C9,B7] at h0
 have hl:C9 n (fun r j=>B (r + 1) (H0 n j)) = C9 n g:=I5 fun r j hr hj=>by
  have:H0 n j = j:=by unfold H0;rw [if_pos hj]
  simp [B,this,hj]
 have hk:∀ k,k < n → I7 k * B 0 k * C9 n (fun r j=>B (r + 1) (H0 k j)) = I7 (n - 1) * (g i k * C9 n (E4 g k b)):=fun k hk=>by
  have h1:=Lf n g b k (n - 1 - k) (by omega)
  have e:C9 n (fun r j=>B (r + 1) (H0 k j)) = C9 n (fun i j=>if j < k then g i j else if j < k + (n - 1 - k) then g i (j + 1) else if j = k + (n - 1 - k) then b i else g i j):=I5 fun r j hr hj=>by
   simp only [B,H0]
   (repeat' split) <;> first | rfl | omega
  rw [e,h1]
  have h2:I7 (n - 1) = I7 k * I7 (n - 1 - k):=by rw [← PY];congr 1;omega
  have h3:B 0 k = g i k:=by simp [B,hk]
  rw [h2,h3];grind
 rw [D8 hk,L6,hl] at h0
 have h4:B 0 n = b i:=by simp [B]
 have h5:I7 n = - I7 (n - 1):=by rw [← U4];congr 1;omega
 have h6:I7 (n - 1) * I7 (n - 1) = 1:=by unfold I7;split <;> rfl
 rw [h4,h5] at h0
 generalize B7 n (fun k=>g i k * C9 n (E4 g k b)) = S at *
 generalize C9 n g = D at *
 generalize I7 (n - 1) = s at *
 have:s * (s * S + -s * b i * D) = 0:=by rw [h0];exact Int.mul_zero _
 grind
theorem IQ (n:Nat) (w:Nat → Nat → Int) (hD:C9 n w ≠ 0):C9 (n + 1) w = C9 n w * w n n - B7 n fun k=>w n k * C9 n (E4 w k fun i=>w i n):=by
 let D:=C9 n w
 let X:Nat → Int:=fun k=>C9 n (E4 w k fun i=>w i n)
 let ρ:Int:=D * w n n - B7 n fun k=>w n k * X k
 have hs:=Eg n w fun i=>w i n
 -- D times the last column
 have h1:D * C9 (n + 1) w = C9 (n + 1) (E4 w n fun i=>D * w i n):=by
  have:=AJ (n + 1) w n (by omega) D 0 (fun i=>w i n) (fun _=>0)
  simp only [Int.zero_mul,Int.add_zero,LP] at this
  exact this.symm
 have h2:C9 (n + 1) (E4 w n fun i=>D * w i n) = C9 (n + 1) (E4 w n fun i=>B7 n (fun j=>X j * w i j) + if i = n then ρ else 0):=I5 fun i j hi hj=>by
  simp only [E4]
  split
  ·by_cases e:i = n
   ·subst e
    rw [if_pos rfl]
    have:B7 i (fun j=>X j * w i j) = B7 i fun k=>w i k * X k:=D8 fun k _=>Int.mul_comm _ _
    rw [this]
    show _ = _ + (D * w i i - _)
    omega
   ·rw [if_neg e,Int.add_zero]
    have:=hs i (by omega)
    have e2:B7 n (fun j=>X j * w i j) = B7 n fun k=>w i k * X k:=D8 fun k _=>Int.mul_comm _ _
    rw [e2]
    show D * w i n = _
    rw [this];exact Int.mul_comm _ _
  ·rfl
 have h3:=p9 (n + 1) w n (by omega) (fun i=>B7 n fun j=>X j * w i j) (fun i=>if i = n then ρ else 0)
 have h4:C9 (n + 1) (E4 w n fun i=>B7 n fun j=>X j * w i j) = 0:=by
  rw [NI (n + 1) w n (by omega)]
  exact Hb fun j hj=>by
   rw [Hd (n + 1) _ n j (by omega) (by omega) (by omega) fun i=>?_,Int.mul_zero]
   simp only [E4]
   rw [if_pos trivial,if_neg (by omega)]
 have h5:C9 (n + 1) (E4 w n fun i=>if i = n then ρ else 0) = ρ * D:=by
  rw [LQ n _ fun i hi=>by simp only [E4];rw [if_pos trivial,if_neg (by omega)]]
  congr 1
  ·simp [E4]
  ·refine I5 fun i j hi hj=>?_
   simp only [E4];rw [if_neg (by omega)]
 rw [h2,h3,h4,h5,Int.zero_add,Int.mul_comm] at h1
 exact Int.eq_of_mul_eq_mul_right hD h1
theorem j8 {α:Type} (l:List α) (f g:α → Int):C0 l (fun x=>f x + g x) = C0 l f + C0 l g:=by
 induction l with
 | nil=>rfl
 | cons x r ih=>simp only [C0,ih];omega
theorem N3 {α:Type} (l:List α) (c:Int) (f:α → Int):C0 l (fun x=>c * f x) = c * C0 l f:=by
 induction l with
 | nil=>simp [C0]
 | cons x r ih=>simp only [C0,ih,Int.mul_add]
theorem Lg {α:Type} (l:List α):C0 l (fun _=>0) = 0:=by
 induction l with
 | nil=>rfl
 | cons x r ih=>simp only [C0,ih];rfl
theorem j9 {α:Type} (l:List α) (n:Nat) (f:α → Nat → Int):C0 l (fun x=>B7 n (f x)) = B7 n fun k=>C0 l fun x=>f x k:=by
 induction n with
 | zero=>simp only [B7];exact Lg l
 | succ n ih=>simp only [B7];rw [j8,ih]
theorem DL {α:Type} {l:List α} {f:α → Int} (h:∀ x ∈ l,0 ≤ f x):0 ≤ C0 l f:=by
 induction l with
 | nil=>exact Int.le_refl _
 | cons x r ih =>
   have h1:=ih fun y hy=>h y (by simp [hy])
   have h2:=h x (by simp)
   rw [C0];omega
end Go.Proofs.YtbhegmcbpolemaaDoor

/- Determinants: rows as columns; systems of equations. -/
import Derived.Test.YtbhegmcbpolemaaDoorQJp4
set_option linter.unusedVariables false
set_option linter.unnecessarySimpa false
set_option linter.unusedSimpArgs false
namespace Go.Proofs.YtbhegmcbpolemaaDoor
open Go Go.Av
attribute [local irreducible] E2 B3 G0 F3 DQ H4 H7 St.le B7 E1
set_option maxRecDepth 100000
theorem Dy (n:Nat) (f:Nat → Int):B8 (n + 1) f = f 0 + B8 n fun j=>f (j + 1):=by
 induction n with
 | zero=>simp [B8]
 | succ n ih=>rw [B8,ih,B8];omega
theorem Gs (k j:Nat):G2 (k + 1) (j + 1) = G2 k j + 1:=by unfold G2;split <;> split <;> omega
theorem Mo (n:Nat) (a:Nat → Nat → Int):C5 (n + 1) a = B8 (n + 1) fun i=>I6 i * a i 0 * C5 n fun i' j=>a (G2 i i') (j + 1):=by
 induction n generalizing a with
 | zero=>simp [C5,B8]
 | succ n ih =>
   rw [C5,Dy (n + 1),Dy (n + 1)]
   have e0:(fun i j=>a (i + 1) (G2 0 j)) = fun i' j=>a (G2 0 i') (j + 1):=rfl
   rw [e0]
   congr 1
   have h1:∀ k,I6 (k + 1) * a 0 (k + 1) * C5 (n + 1) (fun i j=>a (i + 1) (G2 (k + 1) j)) = B8 (n + 1) fun i=>I6 (k + 1) * I6 i * a 0 (k + 1) * a (i + 1) 0 * C5 n fun i' j=>a (G2 i i' + 1) (G2 k j + 1):=fun k=>by
    rw [ih, ← O7]
    refine E8 fun i _=>?_
    have e1:G2 (k + 1) 0 = 0:=rfl
    rw [e1]
    simp only [Gs]
    grind
   have h2:∀ i,I6 (i + 1) * a (i + 1) 0 * C5 (n + 1) (fun i' j=>a (G2 (i + 1) i') (j + 1)) = B8 (n + 1) fun k=>I6 (k + 1) * I6 i * a 0 (k + 1) * a (i + 1) 0 * C5 n fun i' j=>a (G2 i i' + 1) (G2 k j + 1):=fun i=>by
    rw [C5, ← O7]
    refine E8 fun k _=>?_
    have e1:G2 (i + 1) 0 = 0:=rfl
    rw [e1]
    simp only [Gs]
    rw [T1,T1]
    grind
   rw [E8 fun k _=>h1 k,E8 fun i _=>h2 i]
   exact Kk _ _ _
theorem OZ (n:Nat) (a:Nat → Nat → Int):C5 n (fun i j=>a j i) = C5 n a:=by
 induction n generalizing a with
 | zero=>rfl
 | succ n ih =>
   rw [Mo n a,C5]
   refine E8 fun k _=>?_
   rw [← ih fun i' j=>a (G2 k i') (j + 1)]
theorem Ky (n:Nat) (a:Nat → Nat → Int) (k m:Nat) (hk:k < n) (hm:m < n) (hne:k ≠ m) (h:∀ i,a k i = a m i):C5 n a = 0:=by
 rw [← OZ]
 exact Cr n _ k m hk hm hne h
theorem Oa (a b:Nat):I6 (a + b) = I6 a * I6 b:=by
 induction b with
 | zero=>simp [I6]
 | succ b ih=>rw [← Nat.add_assoc,T1,T1,ih];grind
theorem Kz (n:Nat) (g:Nat → Nat → Int) (b:Nat → Int) (k d:Nat) (h:k + d < n) :
  C5 n (fun i j=>if j < k then g i j else if j < k + d then g i (j + 1) else if j = k + d then b i else g i j) = I6 d * C5 n (D7 g k b):=by
 induction d with
 | zero =>
   rw [show I6 0 = 1 by rfl,Int.one_mul]
   refine H9 fun i j _ _=>?_
   simp only [D7]
   split
   ·rw [if_neg (by omega)]
   ·rw [if_neg (by omega),Nat.add_zero]
 | succ d ih =>
   rw [T1,Int.neg_mul, ← ih (by omega)]
   let M:Nat → Nat → Int:=fun i j=>if j < k then g i j else if j < k + d then g i (j + 1) else g i j
   have e1:(fun i j=>if j < k then g i j else if j < k + (d + 1) then g i (j + 1) else if j = k + (d + 1) then b i else g i j) = D7 (D7 M (k + d) fun i=>g i (k + d + 1)) (k + d + 1) b:=by
    funext i j
    simp only [D7,M]
    (repeat' split) <;> first | rfl | omega | (congr 1;omega)
   have e2:(fun i j=>if j < k then g i j else if j < k + d then g i (j + 1) else if j = k + d then b i else g i j) = D7 (D7 M (k + d) b) (k + d + 1) fun i=>g i (k + d + 1):=by
    funext i j
    simp only [D7,M]
    (repeat' split) <;> first | rfl | omega | (subst_vars;rfl) | (congr 1;omega)
   rw [e1,e2]
   exact FB n M (k + d) (by omega) _ _
theorem JZ (n:Nat) (g:Nat → Nat → Int) (b:Nat → Int) (i:Nat) (hi:i < n):B8 n (fun k=>g i k * C5 n (D7 g k b)) = b i * C5 n g:=by
 -- the row once more,ahead of the matrix with b as its last column
 let B:Nat → Nat → Int:=fun r j=>if j < n then g (if r = 0 then i else r - 1) j else b (if r = 0 then i else r - 1)
 have h0:C5 (n + 1) B = 0:=Ky (n + 1) B 0 (i + 1) (by omega) (by omega) (by omega) fun j=>by simp [B]
 rw [C5,B8] at h0
 have hl:C5 n (fun r j=>B (r + 1) (G2 n j)) = C5 n g:=H9 fun r j hr hj=>by
  have:G2 n j = j:=by unfold G2;rw [if_pos hj]
  simp [B,this,hj]
 have hk:∀ k,k < n → I6 k * B 0 k * C5 n (fun r j=>B (r + 1) (G2 k j)) = I6 (n - 1) * (g i k * C5 n (D7 g k b)):=fun k hk=>by
  have h1:=Kz n g b k (n - 1 - k) (by omega)
  have e:C5 n (fun r j=>B (r + 1) (G2 k j)) = C5 n (fun i j=>if j < k then g i j else if j < k + (n - 1 - k) then g i (j + 1) else if j = k + (n - 1 - k) then b i else g i j):=H9 fun r j hr hj=>by
   simp only [B,G2]
   (repeat' split) <;> first | rfl | omega
  rw [e,h1]
  have h2:I6 (n - 1) = I6 k * I6 (n - 1 - k):=by rw [← Oa];congr 1;omega
  have h3:B 0 k = g i k:=by simp [B,hk]
  rw [h2,h3];grind
 rw [E8 hk,O7,hl] at h0
 have h4:B 0 n = b i:=by simp [B]
 have h5:I6 n = - I6 (n - 1):=by rw [← T1];congr 1;omega
 have h6:I6 (n - 1) * I6 (n - 1) = 1:=by unfold I6;split <;> rfl
 rw [h4,h5] at h0
 generalize B8 n (fun k=>g i k * C5 n (D7 g k b)) = S at *
 generalize C5 n g = D at *
 generalize I6 (n - 1) = s at *
 have:s * (s * S + -s * b i * D) = 0:=by rw [h0];exact Int.mul_zero _
 grind
theorem Hd (n:Nat) (w:Nat → Nat → Int) (hD:C5 n w ≠ 0):C5 (n + 1) w = C5 n w * w n n - B8 n fun k=>w n k * C5 n (D7 w k fun i=>w i n):=by
 let D:=C5 n w
 let X:Nat → Int:=fun k=>C5 n (D7 w k fun i=>w i n)
 let ρ:Int:=D * w n n - B8 n fun k=>w n k * X k
 have hs:=JZ n w fun i=>w i n
 -- D times the last column
 have h1:D * C5 (n + 1) w = C5 (n + 1) (D7 w n fun i=>D * w i n):=by
  have:=w6 (n + 1) w n (by omega) D 0 (fun i=>w i n) (fun _=>0)
  simp only [Int.zero_mul,Int.add_zero,FA] at this
  exact this.symm
 have h2:C5 (n + 1) (D7 w n fun i=>D * w i n) = C5 (n + 1) (D7 w n fun i=>B8 n (fun j=>X j * w i j) + if i = n then ρ else 0):=H9 fun i j hi hj=>by
  simp only [D7]
  split
  ·by_cases e:i = n
   ·subst e
    rw [if_pos rfl]
    have:B8 i (fun j=>X j * w i j) = B8 i fun k=>w i k * X k:=E8 fun k _=>Int.mul_comm _ _
    rw [this]
    show _ = _ + (D * w i i - _)
    omega
   ·rw [if_neg e,Int.add_zero]
    have:=hs i (by omega)
    have e2:B8 n (fun j=>X j * w i j) = B8 n fun k=>w i k * X k:=E8 fun k _=>Int.mul_comm _ _
    rw [e2]
    show D * w i n = _
    rw [this];exact Int.mul_comm _ _
  ·rfl
 have h3:=n3 (n + 1) w n (by omega) (fun i=>B8 n fun j=>X j * w i j) (fun i=>if i = n then ρ else 0)
 have h4:C5 (n + 1) (D7 w n fun i=>B8 n fun j=>X j * w i j) = 0:=by
  rw [Gl (n + 1) w n (by omega)]
  exact Kj fun j hj=>by
   rw [Cr (n + 1) _ n j (by omega) (by omega) (by omega) fun i=>?_,Int.mul_zero]
   simp only [D7]
   rw [if_pos trivial,if_neg (by omega)]
 have h5:C5 (n + 1) (D7 w n fun i=>if i = n then ρ else 0) = ρ * D:=by
  rw [Kl n _ fun i hi=>by simp only [D7];rw [if_pos trivial,if_neg (by omega)]]
  congr 1
  ·simp [D7]
  ·refine H9 fun i j hi hj=>?_
   simp only [D7];rw [if_neg (by omega)]
 rw [h2,h3,h4,h5,Int.zero_add,Int.mul_comm] at h1
 exact Int.eq_of_mul_eq_mul_right hD h1
theorem Mp {α:Type} (l:List α) (f g:α → Int):C1 l (fun x=>f x + g x) = C1 l f + C1 l g:=by
 induction l with
 | nil=>rfl
 | cons x r ih=>simp only [C1,ih];omega
theorem Gt {α:Type} (l:List α) (c:Int) (f:α → Int):C1 l (fun x=>c * f x) = c * C1 l f:=by
 induction l with
 | nil=>simp [C1]
 | cons x r ih=>simp only [C1,ih,Int.mul_add]
theorem LA {α:Type} (l:List α):C1 l (fun _=>0) = 0:=by
 induction l with
 | nil=>rfl
 | cons x r ih=>simp only [C1,ih];rfl
theorem Gu {α:Type} (l:List α) (n:Nat) (f:α → Nat → Int):C1 l (fun x=>B8 n (f x)) = B8 n fun k=>C1 l fun x=>f x k:=by
 induction n with
 | zero=>simp only [B8];exact LA l
 | succ n ih=>simp only [B8];rw [Mp,ih]
end Go.Proofs.YtbhegmcbpolemaaDoor

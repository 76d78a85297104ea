/- Least squares: what determinants say of it. Plain. -/
import Derived.Test.YtbhegmcbpolemaaDoorSJp5
set_option linter.unusedVariables false
set_option linter.unnecessarySimpa false
set_option linter.unusedSimpArgs false
namespace Go.Proofs.YtbhegmcbpolemaaDoor
open Go Go.Av
attribute [local irreducible] E3 B5 F2 F0 DQ F5 G8 St.le B6 D3
set_option maxRecDepth 100000
def gF (l:List (List Int)) (i j:Nat):Int:=C0 l fun r=>(B8 r).getD i 0 * (B8 r).getD j 0
def bF (l:List (List Int)) (i:Nat):Int:=C0 l fun r=>(B8 r).getD i 0 * r.getD 0 0
def yF (l:List (List Int)):Int:=C0 l fun r=>r.getD 0 0 * r.getD 0 0
def dF (l:List (List Int)) (n:Nat):Int:=C9 n (gF l)
def kF (l:List (List Int)) (n k:Nat):Int:=C9 n (E4 (gF l) k (bF l))
def rF (l:List (List Int)) (n:Nat):Int:=dF l n * yF l - B7 n fun k=>bF l k * kF l n k
theorem q9 {α:Type} {n i:Nat} (f:Nat → α) (d:α) (h:i < n):((List.range n).map f).getD i d = f i:=by
 rw [List.getD_eq_getElem?_getD,List.getElem?_map,List.getElem?_range h];rfl
theorem L0 (l:List (List Int)) (n:Nat):(D2 l n).length = n:=by simp [D2]
theorem n3 {l:List (List Int)} {n:Nat}:∀ r ∈ D2 l n,r.length = n:=by
 intro r hr
 obtain ⟨i,_,rfl⟩:=List.mem_map.1 hr
 simp
theorem Dd {l:List (List Int)} {n i j:Nat} (hi:i < n) (hj:j < n):P6 (D2 l n) i j = C0 l fun r=>r.getD i 0 * r.getD j 0:=by
 unfold P6 D2
 rw [q9 _ _ hi,q9 _ _ hj]
theorem Ak (l:List (List Int)) (n:Nat):F8 (D2 (l.map B8) n) = dF l n:=by
 unfold F8 dF
 rw [L0]
 refine I5 fun i j hi hj=>?_
 rw [Dd hi hj,Dc];rfl
theorem NX (l:List (List Int)) (n:Nat):(N9 l n).length = n:=by simp [N9]
theorem BV (a:List (List Int)) (b:List Int) (k:Nat):(J9 a b k).length = a.length:=by simp [J9]
theorem PZ {a:List (List Int)} {b:List Int} {n i j k:Nat} (ha:a.length = n) (hr:∀ r ∈ a,r.length = n) (hi:i < n) (hj:j < n):P6 (J9 a b k) i j = if j = k then b.getD i 0 else P6 a i j:=by
 unfold P6 J9
 rw [q9 _ _ (by omega)]
 have hl:(a.getD i []).length = n:=by
  rw [List.getD_eq_getElem?_getD,List.getElem?_eq_getElem (by omega)]
  exact hr _ (List.getElem_mem _)
 rw [List.getD_eq_getElem?_getD,List.getElem?_set]
 by_cases e:k = j
 ·subst e
  rw [if_pos rfl,if_pos (by omega),if_pos rfl];rfl
 ·rw [if_neg e,if_neg (Ne.symm e), ← List.getD_eq_getElem?_getD]
theorem NY {a:List (List Int)} {b:List Int} {k n:Nat} (ha:a.length = n) (hr:∀ r ∈ a,r.length = n):∀ r ∈ J9 a b k,r.length = n:=by
 intro r h
 obtain ⟨i,hi,rfl⟩:=List.mem_map.1 h
 rw [List.length_set,List.getD_eq_getElem?_getD,List.getElem?_eq_getElem (List.mem_range.1 hi)]
 exact hr _ (List.getElem_mem _)
theorem Pa (l:List (List Int)) (n k:Nat):F8 (J9 (D2 (l.map B8) n) (N9 l n) k) = kF l n k:=by
 unfold F8 kF
 rw [BV,L0]
 refine I5 fun i j hi hj=>?_
 rw [PZ (L0 _ _) n3 hi hj]
 simp only [E4]
 split
 ·unfold N9;rw [q9 _ _ hi];rfl
 ·rw [Dd hi hj,Dc];rfl
theorem Cn {r:List Int} {n i:Nat} (hr:r.length = n) (hn:1 ≤ n) (hi:i < n):(H2 r).getD i 0 = (B8 r).getD i 0:=by
 unfold H2
 rw [List.getD_eq_getElem?_getD,List.getElem?_append_left (by simp [B8];omega), ← List.getD_eq_getElem?_getD]
theorem CR {r:List Int} {n:Nat} (hr:r.length = n) (hn:1 ≤ n):(H2 r).getD n 0 = r.getD 0 0:=by
 have h1:(B8 r).length = n:=by simp [B8];omega
 unfold H2
 rw [List.getD_eq_getElem?_getD,List.getElem?_append_right (by omega),h1,Nat.sub_self];rfl
theorem Pb {l:List (List Int)} {n:Nat} (hl:∀ r ∈ l,r.length = n) (hn:1 ≤ n) (hD:dF l n ≠ 0):F8 (D2 (l.map H2) (n + 1)) = rF l n:=by
 let w:Nat → Nat → Int:=fun i j=>C0 l fun r=>(H2 r).getD i 0 * (H2 r).getD j 0
 have e0:F8 (D2 (l.map H2) (n + 1)) = C9 (n + 1) w:=by
  unfold F8
  rw [L0]
  refine I5 fun i j hi hj=>?_
  rw [Dd hi hj,Dc]
 have e1:∀ i j,i < n → j < n → w i j = gF l i j:=fun i j hi hj=>K6 fun r hr=>by rw [Cn (hl r hr) hn hi,Cn (hl r hr) hn hj]
 have e2:∀ i,i < n → w i n = bF l i:=fun i hi=>K6 fun r hr=>by rw [Cn (hl r hr) hn hi,CR (hl r hr) hn]
 have e3:∀ i,i < n → w n i = bF l i:=fun i hi=>K6 fun r hr=>by rw [Cn (hl r hr) hn hi,CR (hl r hr) hn];exact Int.mul_comm _ _
 have e4:w n n = yF l:=K6 fun r hr=>by rw [CR (hl r hr) hn]
 have e5:C9 n w = dF l n:=I5 fun i j hi hj=>e1 i j hi hj
 rw [e0,IQ n w (by rw [e5];exact hD),e5,e4]
 unfold rF
 congr 1
 refine D8 fun k hk=>?_
 rw [e3 k hk]
 congr 1
 refine I5 fun i j hi hj=>?_
 simp only [E4]
 rw [e2 i hi,e1 i j hi hj]
theorem FE (l:List (List Int)) {n i:Nat} (hi:i < n):B7 n (fun k=>gF l i k * kF l n k) = bF l i * dF l n:=Eg n (gF l) (bF l) i hi
def eF (l:List (List Int)) (n:Nat) (r:List Int):Int:=(B7 n fun k=>kF l n k * (B8 r).getD k 0) - dF l n * r.getD 0 0
theorem GB (l:List (List Int)) {n i:Nat} (hi:i < n):C0 l (fun r=>eF l n r * (B8 r).getD i 0) = 0:=by
 have h1:C0 l (fun r=>eF l n r * (B8 r).getD i 0) = C0 l (fun r=>(B7 n fun k=>kF l n k * ((B8 r).getD i 0 * (B8 r).getD k 0)) + -dF l n * ((B8 r).getD i 0 * r.getD 0 0)):=K6 fun r _=>by
  unfold eF
  have:(B7 n fun k=>kF l n k * ((B8 r).getD i 0 * (B8 r).getD k 0)) = (B8 r).getD i 0 * B7 n fun k=>kF l n k * (B8 r).getD k 0:=by
   rw [← L6]
   exact D8 fun k _=>by grind
  rw [this];grind
 rw [h1,j8,j9,N3]
 have h2:(B7 n fun k=>C0 l fun r=>kF l n k * ((B8 r).getD i 0 * (B8 r).getD k 0)) = B7 n fun k=>gF l i k * kF l n k:=D8 fun k _=>by rw [N3];exact Int.mul_comm _ _
 rw [h2,FE l hi]
 show bF l i * dF l n + -dF l n * bF l i = 0
 grind
theorem Iz (l:List (List Int)) (n:Nat):C0 l (fun r=>eF l n r * eF l n r) = dF l n * rF l n:=by
 have h1:∀ r,eF l n r * eF l n r = (B7 n fun k=>kF l n k * (eF l n r * (B8 r).getD k 0)) + -dF l n * (eF l n r * r.getD 0 0):=fun r=>by
  have:(B7 n fun k=>kF l n k * (eF l n r * (B8 r).getD k 0)) = eF l n r * B7 n fun k=>kF l n k * (B8 r).getD k 0:=by
   rw [← L6];exact D8 fun k _=>by grind
  rw [this]
  have e:eF l n r = (B7 n fun k=>kF l n k * (B8 r).getD k 0) - dF l n * r.getD 0 0:=rfl
  generalize (B7 n fun k=>kF l n k * (B8 r).getD k 0) = S at *
  generalize eF l n r = x at *
  subst e;grind
 rw [K6 fun r _=>h1 r,j8,j9,N3]
 have h2:(B7 n fun k=>C0 l fun r=>kF l n k * (eF l n r * (B8 r).getD k 0)) = 0:=Hb fun k hk=>by rw [N3,GB l hk,Int.mul_zero]
 have h3:C0 l (fun r=>eF l n r * r.getD 0 0) = - rF l n:=by
  have h4:C0 l (fun r=>eF l n r * r.getD 0 0) = C0 l (fun r=>(B7 n fun k=>kF l n k * ((B8 r).getD k 0 * r.getD 0 0)) + -dF l n * (r.getD 0 0 * r.getD 0 0)):=K6 fun r _=>by
   unfold eF
   have:(B7 n fun k=>kF l n k * ((B8 r).getD k 0 * r.getD 0 0)) = r.getD 0 0 * B7 n fun k=>kF l n k * (B8 r).getD k 0:=by
    rw [← L6];exact D8 fun k _=>by grind
   rw [this];grind
  rw [h4,j8,j9,N3]
  have h5:(B7 n fun k=>C0 l fun r=>kF l n k * ((B8 r).getD k 0 * r.getD 0 0)) = B7 n fun k=>bF l k * kF l n k:=D8 fun k _=>by rw [N3];exact Int.mul_comm _ _
  rw [h5]
  unfold rF
  show _ + -dF l n * yF l = _
  grind
 rw [h2,h3];grind
theorem Pc (l:List (List Int)) (n:Nat):0 ≤ dF l n * rF l n:=by
 rw [← Iz]
 exact DL fun r _=>by
  rcases Int.le_total 0 (eF l n r) with h | h
  ·exact Int.mul_nonneg h h
  ·exact Int.mul_nonneg_of_nonpos_of_nonpos h h
theorem KB (x:Int):0 ≤ x * x:=by
 rcases Int.le_total 0 x with h | h
 ·exact Int.mul_nonneg h h
 ·exact Int.mul_nonneg_of_nonpos_of_nonpos h h
theorem Qh (l:List (List Int)) {n:Nat} (hn:1 ≤ n):0 ≤ l.length * (dF l n * ((l.length * yF l - bF l 0 * bF l 0) * dF l n - l.length * rF l n)):=by
 let N:Int:=l.length
 let S:=B7 n fun k=>bF l k * kF l n k
 have hb:∀ r:List Int,(B8 r).getD 0 0 = 1:=fun r=>rfl
 have key:C0 l (fun r=>(N * (B7 n fun k=>kF l n k * (B8 r).getD k 0) + -(dF l n * bF l 0)) * (N * (B7 n fun k=>kF l n k * (B8 r).getD k 0) + -(dF l n * bF l 0))) = N * (dF l n * (N * S - dF l n * (bF l 0 * bF l 0))):=by
  let f:List Int → Int:=fun r=>B7 n fun k=>kF l n k * (B8 r).getD k 0
  have h1:C0 l f = dF l n * bF l 0:=by
   show C0 l (fun r=>B7 n fun k=>kF l n k * (B8 r).getD k 0) = _
   rw [j9]
   have:(B7 n fun k=>C0 l fun r=>kF l n k * (B8 r).getD k 0) = B7 n fun k=>gF l 0 k * kF l n k:=D8 fun k _=>by
    rw [N3,Int.mul_comm]
    congr 1
    exact K6 fun r _=>by rw [hb,Int.one_mul]
   rw [this,FE l (by omega),Int.mul_comm]
  have h2:C0 l (fun r=>f r * f r) = dF l n * S:=by
   have e:∀ r,f r * f r = B7 n fun k=>kF l n k * B7 n fun j=>kF l n j * ((B8 r).getD k 0 * (B8 r).getD j 0):=fun r=>by
    show (B7 n fun k=>kF l n k * (B8 r).getD k 0) * f r = _
    rw [Int.mul_comm, ← L6]
    refine D8 fun k _=>?_
    have:(B7 n fun j=>kF l n j * ((B8 r).getD k 0 * (B8 r).getD j 0)) = (B8 r).getD k 0 * f r:=by
     show _ = (B8 r).getD k 0 * B7 n fun k=>kF l n k * (B8 r).getD k 0
     rw [← L6];exact D8 fun j _=>by grind
    rw [this];grind
   rw [K6 fun r _=>e r,j9]
   have e2:∀ k,k < n → C0 l (fun r=>kF l n k * B7 n fun j=>kF l n j * ((B8 r).getD k 0 * (B8 r).getD j 0)) = dF l n * (bF l k * kF l n k):=fun k hk=>by
    rw [N3,j9]
    have:(B7 n fun j=>C0 l fun r=>kF l n j * ((B8 r).getD k 0 * (B8 r).getD j 0)) = B7 n fun j=>gF l k j * kF l n j:=D8 fun j _=>by rw [N3];exact Int.mul_comm _ _
    rw [this,FE l hk];grind
   rw [D8 e2,L6]
  have h3:∀ r,(N * f r + -(dF l n * bF l 0)) * (N * f r + -(dF l n * bF l 0)) = (N * N) * (f r * f r) + ((-(2 * N * (dF l n * bF l 0))) * f r + (dF l n * bF l 0) * (dF l n * bF l 0)):=fun r=>by grind
  have h4:C0 l (fun _=>(dF l n * bF l 0) * (dF l n * bF l 0)) = N * ((dF l n * bF l 0) * (dF l n * bF l 0)):=by
   generalize (dF l n * bF l 0) * (dF l n * bF l 0) = c
   show _ = (l.length:Int) * c
   clear h1 h2 h3 f S N
   induction l with
   | nil=>simp [C0]
   | cons r s ih=>rw [C0,ih,List.length_cons,Int.natCast_succ,Int.add_mul,Int.one_mul];omega
  show C0 l (fun r=>(N * f r + -(dF l n * bF l 0)) * (N * f r + -(dF l n * bF l 0))) = _
  rw [K6 fun r _=>h3 r,j8,j8,N3,N3,h1,h2,h4]
  grind
 have h5:(0:Int) ≤ N * (dF l n * (N * S - dF l n * (bF l 0 * bF l 0))):=by rw [← key];exact DL fun r _=>KB _
 have h6:N * (dF l n * (N * S - dF l n * (bF l 0 * bF l 0))) = l.length * (dF l n * ((l.length * yF l - bF l 0 * bF l 0) * dF l n - l.length * rF l n)):=by
  show N * _ = N * (dF l n * ((N * yF l - bF l 0 * bF l 0) * dF l n - N * (dF l n * yF l - S)))
  grind
 rw [← h6];exact h5
end Go.Proofs.YtbhegmcbpolemaaDoor

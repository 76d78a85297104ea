/- Least squares: what determinants say of it. Plain. -/
import Derived.Test.YtbhegmcbpolemaaDoorRJp5
set_option linter.unusedVariables false
set_option linter.unnecessarySimpa false
set_option linter.unusedSimpArgs false
namespace Go.Proofs.YtbhegmcbpolemaaDoor
open Go Go.Av
attribute [local irreducible] E2 B3 F6 E9 DQ G2 H3 St.le B4 D7
set_option maxRecDepth 100000
def gF (l:List (List Int)) (i j:Nat):Int:=C0 l fun r=>(B9 r).getD i 0 * (B9 r).getD j 0
def bF (l:List (List Int)) (i:Nat):Int:=C0 l fun r=>(B9 r).getD i 0 * r.getD 0 0
def yF (l:List (List Int)):Int:=C0 l fun r=>r.getD 0 0 * r.getD 0 0
def dF (l:List (List Int)) (n:Nat):Int:=C3 n (gF l)
def kF (l:List (List Int)) (n k:Nat):Int:=C3 n (D6 (gF l) k (bF l))
def rF (l:List (List Int)) (n:Nat):Int:=dF l n * yF l - C1 n fun k=>bF l k * kF l n k
theorem p2 {α:Type} {n i:Nat} (f:Nat → α) (d:α) (h:i < n):((List.range n).map f).getD i d = f i:=by
 rw [List.getD_eq_getElem?_getD,List.getElem?_map,List.getElem?_range h];rfl
theorem J5 (l:List (List Int)) (n:Nat):(C9 l n).length = n:=by simp [C9]
theorem z8 {l:List (List Int)} {n:Nat}:∀ r ∈ C9 l n,r.length = n:=by
 intro r hr
 obtain ⟨i,_,rfl⟩:=List.mem_map.1 hr
 simp
theorem BP {l:List (List Int)} {n i j:Nat} (hi:i < n) (hj:j < n):P1 (C9 l n) i j = C0 l fun r=>r.getD i 0 * r.getD j 0:=by
 unfold P1 C9
 rw [p2 _ _ hi,p2 _ _ hj]
theorem S9 (l:List (List Int)) (n:Nat):F5 (C9 (l.map B9) n) = dF l n:=by
 unfold F5 dF
 rw [J5]
 refine I3 fun i j hi hj=>?_
 rw [BP hi hj,R7];rfl
theorem HS (l:List (List Int)) (n:Nat):(N6 l n).length = n:=by simp [N6]
theorem BQ (a:List (List Int)) (b:List Int) (k:Nat):(K0 a b k).length = a.length:=by simp [K0]
theorem PN {a:List (List Int)} {b:List Int} {n i j k:Nat} (ha:a.length = n) (hr:∀ r ∈ a,r.length = n) (hi:i < n) (hj:j < n):P1 (K0 a b k) i j = if j = k then b.getD i 0 else P1 a i j:=by
 unfold P1 K0
 rw [p2 _ _ (by omega)]
 have hl:(a.getD i []).length = n:=by
  rw [List.getD_eq_getElem?_getD,List.getElem?_eq_getElem (by omega)]
  exact hr _ (List.getElem_mem _)
 rw [List.getD_eq_getElem?_getD,List.getElem?_set]
 by_cases e:k = j
 ·subst e
  rw [if_pos rfl,if_pos (by omega),if_pos rfl];rfl
 ·rw [if_neg e,if_neg (Ne.symm e), ← List.getD_eq_getElem?_getD]
theorem NW {a:List (List Int)} {b:List Int} {k n:Nat} (ha:a.length = n) (hr:∀ r ∈ a,r.length = n):∀ r ∈ K0 a b k,r.length = n:=by
 intro r h
 obtain ⟨i,hi,rfl⟩:=List.mem_map.1 h
 rw [List.length_set,List.getD_eq_getElem?_getD,List.getElem?_eq_getElem (List.mem_range.1 hi)]
 exact hr _ (List.getElem_mem _)
theorem Iw (l:List (List Int)) (n k:Nat):F5 (K0 (C9 (l.map B9) n) (N6 l n) k) = kF l n k:=by
 unfold F5 kF
 rw [BQ,J5]
 refine I3 fun i j hi hj=>?_
 rw [PN (J5 _ _) z8 hi hj]
 simp only [D6]
 split
 ·unfold N6;rw [p2 _ _ hi];rfl
 ·rw [BP hi hj,R7];rfl
theorem Ah {r:List Int} {n i:Nat} (hr:r.length = n) (hn:1 ≤ n) (hi:i < n):(F9 r).getD i 0 = (B9 r).getD i 0:=by
 unfold F9
 rw [List.getD_eq_getElem?_getD,List.getElem?_append_left (by simp [B9];omega), ← List.getD_eq_getElem?_getD]
theorem AA {r:List Int} {n:Nat} (hr:r.length = n) (hn:1 ≤ n):(F9 r).getD n 0 = r.getD 0 0:=by
 have h1:(B9 r).length = n:=by simp [B9];omega
 unfold F9
 rw [List.getD_eq_getElem?_getD,List.getElem?_append_right (by omega),h1,Nat.sub_self];rfl
theorem Et {l:List (List Int)} {n:Nat} (hl:∀ r ∈ l,r.length = n) (hn:1 ≤ n) (hD:dF l n ≠ 0):F5 (C9 (l.map F9) (n + 1)) = rF l n:=by
 let w:Nat → Nat → Int:=fun i j=>C0 l fun r=>(F9 r).getD i 0 * (F9 r).getD j 0
 have e0:F5 (C9 (l.map F9) (n + 1)) = C3 (n + 1) w:=by
  unfold F5
  rw [J5]
  refine I3 fun i j hi hj=>?_
  rw [BP hi hj,R7]
 have e1:∀ i j,i < n → j < n → w i j = gF l i j:=fun i j hi hj=>L7 fun r hr=>by rw [Ah (hl r hr) hn hi,Ah (hl r hr) hn hj]
 have e2:∀ i,i < n → w i n = bF l i:=fun i hi=>L7 fun r hr=>by rw [Ah (hl r hr) hn hi,AA (hl r hr) hn]
 have e3:∀ i,i < n → w n i = bF l i:=fun i hi=>L7 fun r hr=>by rw [Ah (hl r hr) hn hi,AA (hl r hr) hn];exact Int.mul_comm _ _
 have e4:w n n = yF l:=L7 fun r hr=>by rw [AA (hl r hr) hn]
 have e5:C3 n w = dF l n:=I3 fun i j hi hj=>e1 i j hi hj
 rw [e0,IG n w (by rw [e5];exact hD),e5,e4]
 unfold rF
 congr 1
 refine G8 fun k hk=>?_
 rw [e3 k hk]
 congr 1
 refine I3 fun i j hi hj=>?_
 simp only [D6]
 rw [e2 i hi,e1 i j hi hj]
theorem PO (l:List (List Int)) {n i:Nat} (hi:i < n):C1 n (fun k=>gF l i k * kF l n k) = bF l i * dF l n:=EU n (gF l) (bF l) i hi
theorem PQ (l:List (List Int)) (i j:Nat):gF l i j = gF l j i:=L7 fun r _=>Int.mul_comm _ _
end Go.Proofs.YtbhegmcbpolemaaDoor

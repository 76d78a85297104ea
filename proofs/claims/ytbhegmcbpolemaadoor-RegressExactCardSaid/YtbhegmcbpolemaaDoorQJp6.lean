/- Least squares: what determinants say of it. Plain. -/
import Derived.Test.YtbhegmcbpolemaaDoorQJp5
set_option linter.unusedVariables false
set_option linter.unnecessarySimpa false
set_option linter.unusedSimpArgs false
namespace Go.Proofs.YtbhegmcbpolemaaDoor
open Go Go.Av
attribute [local irreducible] E2 B3 G0 F3 DQ H4 H7 St.le B7 E1
set_option maxRecDepth 100000
def gF (l:List (List Int)) (i j:Nat):Int:=C1 l fun r=>(C0 r).getD i 0 * (C0 r).getD j 0
def bF (l:List (List Int)) (i:Nat):Int:=C1 l fun r=>(C0 r).getD i 0 * r.getD 0 0
def yF (l:List (List Int)):Int:=C1 l fun r=>r.getD 0 0 * r.getD 0 0
def dF (l:List (List Int)) (n:Nat):Int:=C5 n (gF l)
def kF (l:List (List Int)) (n k:Nat):Int:=C5 n (D7 (gF l) k (bF l))
def rF (l:List (List Int)) (n:Nat):Int:=dF l n * yF l - B8 n fun k=>bF l k * kF l n k
theorem n6 {α:Type} {n i:Nat} (f:Nat → α) (d:α) (h:i < n):((List.range n).map f).getD i d = f i:=by
 rw [List.getD_eq_getElem?_getD,List.getElem?_map,List.getElem?_range h];rfl
theorem J7 (l:List (List Int)) (n:Nat):(D0 l n).length = n:=by simp [D0]
theorem w7 {l:List (List Int)} {n:Nat}:∀ r ∈ D0 l n,r.length = n:=by
 intro r hr
 obtain ⟨i,_,rfl⟩:=List.mem_map.1 hr
 simp
theorem Cv {l:List (List Int)} {n i j:Nat} (hi:i < n) (hj:j < n):P3 (D0 l n) i j = C1 l fun r=>r.getD i 0 * r.getD j 0:=by
 unfold P3 D0
 rw [n6 _ _ hi,n6 _ _ hj]
theorem R9 (l:List (List Int)) (n:Nat):F1 (D0 (l.map C0) n) = dF l n:=by
 unfold F1 dF
 rw [J7]
 refine H9 fun i j hi hj=>?_
 rw [Cv hi hj,Cu];rfl
theorem Gv (l:List (List Int)) (n:Nat):(N0 l n).length = n:=by simp [N0]
theorem Ax (a:List (List Int)) (b:List Int) (k:Nat):(J4 a b k).length = a.length:=by simp [J4]
theorem Ob {a:List (List Int)} {b:List Int} {n i j k:Nat} (ha:a.length = n) (hr:∀ r ∈ a,r.length = n) (hi:i < n) (hj:j < n):P3 (J4 a b k) i j = if j = k then b.getD i 0 else P3 a i j:=by
 unfold P3 J4
 rw [n6 _ _ (by omega)]
 have hl:(a.getD i []).length = n:=by
  rw [List.getD_eq_getElem?_getD,List.getElem?_eq_getElem (by omega)]
  exact hr _ (List.getElem_mem _)
 rw [List.getD_eq_getElem?_getD,List.getElem?_set]
 by_cases e:k = j
 ·subst e
  rw [if_pos rfl,if_pos (by omega),if_pos rfl];rfl
 ·rw [if_neg e,if_neg (Ne.symm e), ← List.getD_eq_getElem?_getD]
theorem Mq {a:List (List Int)} {b:List Int} {k n:Nat} (ha:a.length = n) (hr:∀ r ∈ a,r.length = n):∀ r ∈ J4 a b k,r.length = n:=by
 intro r h
 obtain ⟨i,hi,rfl⟩:=List.mem_map.1 h
 rw [List.length_set,List.getD_eq_getElem?_getD,List.getElem?_eq_getElem (List.mem_range.1 hi)]
 exact hr _ (List.getElem_mem _)
theorem IJ (l:List (List Int)) (n k:Nat):F1 (J4 (D0 (l.map C0) n) (N0 l n) k) = kF l n k:=by
 unfold F1 kF
 rw [Ax,J7]
 refine H9 fun i j hi hj=>?_
 rw [Ob (J7 _ _) w7 hi hj]
 simp only [D7]
 split
 ·unfold N0;rw [n6 _ _ hi];rfl
 ·rw [Cv hi hj,Cu];rfl
theorem CG {r:List Int} {n i:Nat} (hr:r.length = n) (hn:1 ≤ n) (hi:i < n):(G4 r).getD i 0 = (C0 r).getD i 0:=by
 unfold G4
 rw [List.getD_eq_getElem?_getD,List.getElem?_append_left (by simp [C0];omega), ← List.getD_eq_getElem?_getD]
theorem Bo {r:List Int} {n:Nat} (hr:r.length = n) (hn:1 ≤ n):(G4 r).getD n 0 = r.getD 0 0:=by
 have h1:(C0 r).length = n:=by simp [C0];omega
 unfold G4
 rw [List.getD_eq_getElem?_getD,List.getElem?_append_right (by omega),h1,Nat.sub_self];rfl
theorem IK {l:List (List Int)} {n:Nat} (hl:∀ r ∈ l,r.length = n) (hn:1 ≤ n) (hD:dF l n ≠ 0):F1 (D0 (l.map G4) (n + 1)) = rF l n:=by
 let w:Nat → Nat → Int:=fun i j=>C1 l fun r=>(G4 r).getD i 0 * (G4 r).getD j 0
 have e0:F1 (D0 (l.map G4) (n + 1)) = C5 (n + 1) w:=by
  unfold F1
  rw [J7]
  refine H9 fun i j hi hj=>?_
  rw [Cv hi hj,Cu]
 have e1:∀ i j,i < n → j < n → w i j = gF l i j:=fun i j hi hj=>U1 fun r hr=>by rw [CG (hl r hr) hn hi,CG (hl r hr) hn hj]
 have e2:∀ i,i < n → w i n = bF l i:=fun i hi=>U1 fun r hr=>by rw [CG (hl r hr) hn hi,Bo (hl r hr) hn]
 have e3:∀ i,i < n → w n i = bF l i:=fun i hi=>U1 fun r hr=>by rw [CG (hl r hr) hn hi,Bo (hl r hr) hn];exact Int.mul_comm _ _
 have e4:w n n = yF l:=U1 fun r hr=>by rw [Bo (hl r hr) hn]
 have e5:C5 n w = dF l n:=H9 fun i j hi hj=>e1 i j hi hj
 rw [e0,Hd n w (by rw [e5];exact hD),e5,e4]
 unfold rF
 congr 1
 refine E8 fun k hk=>?_
 rw [e3 k hk]
 congr 1
 refine H9 fun i j hi hj=>?_
 simp only [D7]
 rw [e2 i hi,e1 i j hi hj]
theorem IL {l:List (List Int)} {n:Nat} (c:Nat → Int) (h:∀ r ∈ l,r.getD 0 0 = B8 n fun j=>c j * (C0 r).getD j 0) {k:Nat} (hk:k < n):kF l n k = c k * dF l n:=by
 unfold kF dF
 rw [← Hb n (gF l) k hk c]
 refine H9 fun i j hi hj=>?_
 simp only [D7]
 split
 ·unfold bF
  have:(B8 n fun j=>c j * gF l i j) = C1 l fun r=>B8 n fun j=>c j * ((C0 r).getD i 0 * (C0 r).getD j 0):=by
   rw [Gu];exact E8 fun j _=>by rw [Gt];rfl
  rw [this]
  refine U1 fun r hr=>?_
  rw [h r hr, ← O7]
  exact E8 fun j _=>by grind
 ·rfl
theorem Oc {l:List (List Int)} {n:Nat} (c:Nat → Int) (h:∀ r ∈ l,r.getD 0 0 = B8 n fun j=>c j * (C0 r).getD j 0):rF l n = 0:=by
 have h1:∀ k,k < n → bF l k * kF l n k = dF l n * (c k * bF l k):=fun k hk=>by rw [IL c h hk];grind
 unfold rF
 rw [E8 h1,O7]
 have h2:yF l = B8 n fun k=>c k * bF l k:=by
  unfold yF
  have:(B8 n fun k=>c k * bF l k) = C1 l fun r=>B8 n fun k=>c k * ((C0 r).getD k 0 * r.getD 0 0):=by
   rw [Gu];exact E8 fun j _=>by rw [Gt];rfl
  rw [this]
  refine U1 fun r hr=>?_
  have e:(B8 n fun k=>c k * ((C0 r).getD k 0 * r.getD 0 0)) = r.getD 0 0 * B8 n fun k=>c k * (C0 r).getD k 0:=by
   rw [← O7];exact E8 fun j _=>by grind
  rw [e, ← h r hr]
 rw [h2];omega
end Go.Proofs.YtbhegmcbpolemaaDoor

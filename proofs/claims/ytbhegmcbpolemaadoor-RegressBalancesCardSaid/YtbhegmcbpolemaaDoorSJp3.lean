/- Determinants of matrices as lists, their sizes: plain. -/
import Derived.Test.YtbhegmcbpolemaaDoorSJp2
set_option linter.unusedVariables false
set_option linter.unnecessarySimpa false
set_option linter.unusedSimpArgs false
namespace Go.Proofs.YtbhegmcbpolemaaDoor
open Go Go.Av
attribute [local irreducible] E3 B5 F2 F0 DQ F5 G8 St.le B6 D3
set_option maxRecDepth 100000
def Aa (a:Nat → Nat → Int):Nat → Nat → List Nat → Int
 | 0,_,_=>1
 | m + 1,r,F=>B7 (m + 1) fun j=>I7 j * a r (F.getD j 0) * Aa a m (r + 1) (F.eraseIdx j)
theorem GL (F:List Nat) (k j:Nat):(F.eraseIdx k).getD j 0 = F.getD (H0 k j) 0:=by
 rw [List.getD_eq_getElem?_getD,List.getElem?_eraseIdx,List.getD_eq_getElem?_getD]
 unfold H0
 split <;> rfl
theorem Iw (a:Nat → Nat → Int):∀ (m r:Nat) (F:List Nat),Aa a m r F = C9 m fun i j=>a (r + i) (F.getD j 0)
 | 0,_,_=>rfl
 | m + 1,r,F=>by
   rw [Aa,C9]
   refine D8 fun j _=>?_
   rw [Iw a m]
   congr 1
   refine I5 fun i k _ _=>?_
   rw [GL]
   congr 1;omega
theorem NP (a:Nat → Nat → Int) (n:Nat):Aa a n 0 (List.range n) = C9 n a:=by
 rw [Iw]
 refine I5 fun i j _ hj=>?_
 rw [Nat.zero_add,List.getD_eq_getElem?_getD,List.getElem?_range hj];rfl
def N2 (tk:List Bool):List Nat:=(List.range tk.length).filter fun k=>!(tk.getD k true)
def M0 (tk:List Bool) (k:Nat):Nat:=((List.range k).filter fun k=>!(tk.getD k true)).length
theorem DJ {k n:Nat} (h:k < n):List.range n = List.range k ++ k :: List.range' (k + 1) (n - k - 1):=by
 rw [List.range_eq_range',List.range_eq_range', ← List.range'_succ]
 have:=List.range'_append_1 (s:=0) (m:=k) (n:=n - k - 1 + 1)
 rw [Nat.zero_add] at this
 rw [this]
 congr 1;omega
theorem Jy {tk:List Bool} {k:Nat} (h:tk[k]? = some false):M0 tk (k + 1) = M0 tk k + 1:=by
 unfold M0
 rw [List.range_succ,List.filter_append]
 simp [List.getD_eq_getElem?_getD,h]
theorem Jz {tk:List Bool} {k:Nat} (h:tk[k]? = some true):M0 tk (k + 1) = M0 tk k:=by
 unfold M0
 rw [List.range_succ,List.filter_append]
 simp [List.getD_eq_getElem?_getD,h]
theorem PR (tk:List Bool):M0 tk tk.length = (N2 tk).length:=rfl
theorem PS {tk:List Bool} {k:Nat} (h:tk[k]? = some false):(N2 tk).getD (M0 tk k) 0 = k ∧ M0 tk k < (N2 tk).length:=by
 have hk:k < tk.length:=(List.getElem?_eq_some_iff.1 h).1
 unfold N2 M0
 rw [DJ hk,List.filter_append,List.filter_cons,if_pos (by simp [List.getD_eq_getElem?_getD,h])]
 constructor
 ·rw [List.getD_eq_getElem?_getD,List.getElem?_append_right (Nat.le_refl _)];simp
 ·simp
theorem NQ {tk:List Bool} {k:Nat} (h:tk[k]? = some false):N2 (tk.set k true) = (N2 tk).eraseIdx (M0 tk k):=by
 have hk:k < tk.length:=(List.getElem?_eq_some_iff.1 h).1
 unfold N2 M0
 rw [List.length_set,DJ hk,List.filter_append,List.filter_append,List.filter_cons,List.filter_cons,if_neg (by simp [List.getD_eq_getElem?_getD,hk]),if_pos (by simp [List.getD_eq_getElem?_getD,h])]
 rw [List.eraseIdx_append_of_length_le (Nat.le_refl _),Nat.sub_self,List.eraseIdx_cons_zero]
 congr 1
 ·refine List.filter_congr fun j hj=>?_
  have:j < k:=List.mem_range.1 hj
  simp [List.getD_eq_getElem?_getD,List.getElem?_set,show k ≠ j by omega]
 ·refine List.filter_congr fun j hj=>?_
  have:k + 1 ≤ j:=(List.mem_range'_1.1 hj).1
  simp [List.getD_eq_getElem?_getD,List.getElem?_set,show k ≠ j by omega]
theorem Fv (n:Nat):N2 (List.replicate n false) = List.range n:=by
 unfold N2
 rw [List.length_replicate]
 refine List.filter_eq_self.2 fun k hk=>?_
 simp [List.getD_eq_getElem?_getD,List.getElem?_replicate,List.mem_range.1 hk]
def P6 (a:List (List Int)) (i j:Nat):Int:=(a.getD i []).getD j 0
theorem Qd {a:List (List Int)} {i j:Nat} {r:List Int} {x:Int} (h:a[i]? = some r) (hj:r[j]? = some x):P6 a i j = x:=by
 simp [P6,List.getD_eq_getElem?_getD,h,hj]
def F8 (a:List (List Int)):Int:=C9 a.length (P6 a)
def N8:List Int → Int
 | []=>0
 | x :: r=>max x (-x) + N8 r
def Da (r:List Int):Int:=max (N8 r) 1
def T3:List (List Int) → Int
 | []=>1
 | r :: s=>Da r * T3 s
theorem NR (r:List Int):0 ≤ N8 r:=by
 induction r with
 | nil=>exact Int.le_refl _
 | cons x r ih=>simp only [N8];omega
theorem NS (a:List (List Int)):1 ≤ T3 a:=by
 induction a with
 | nil=>exact Int.le_refl _
 | cons r s ih =>
   simp only [T3]
   have h1:1 ≤ Da r:=by unfold Da;omega
   have:=Int.mul_le_mul h1 ih (by omega) (by omega)
   omega
theorem LY {r:List Int} {k:Nat} {x:Int} (h:r[k]? = some x):N8 (r.drop k) = max x (-x) + N8 (r.drop (k + 1)):=by
 rw [List.drop_eq_getElem_cons (List.getElem?_eq_some_iff.1 h).1,(List.getElem?_eq_some_iff.1 h).2,N8]
theorem LZ {a:List (List Int)} {k:Nat} {r:List Int} (h:a[k]? = some r):T3 (a.drop k) = Da r * T3 (a.drop (k + 1)):=by
 rw [List.drop_eq_getElem_cons (List.getElem?_eq_some_iff.1 h).1,(List.getElem?_eq_some_iff.1 h).2,T3]
theorem Ix:∀ (r:List Int),B7 r.length (fun j=>((r.getD j 0).natAbs:Int)) = N8 r
 | []=>rfl
 | x :: r=>by
   rw [List.length_cons,N8, ← Ix r]
   have:∀ n (f:Nat → Int),B7 (n + 1) f = f 0 + B7 n fun j=>f (j + 1):=fun n f=>by
    induction n with
    | zero=>simp [B7]
    | succ n ih=>rw [B7,ih,B7];omega
   rw [this]
   simp only [List.getD_cons_zero,List.getD_cons_succ]
   omega
theorem PT (a:List (List Int)) (h:∀ r ∈ a,r.length = a.length):((F8 a).natAbs:Int) ≤ T3 a:=by
 refine Int.le_trans (PK a.length (P6 a)) ?_
 have key:∀ (n:Nat) (b:List (List Int)),(∀ r ∈ b,r.length = n) → q8 b.length (fun i=>B7 n fun j=>((P6 b i j).natAbs:Int)) ≤ T3 b:=by
  intro n b
  induction b with
  | nil=>intro _;exact Int.le_refl _
  | cons r s ih =>
    intro hb
    simp only [List.length_cons,q8,T3]
    have h1:=ih fun x hx=>hb x (by simp [hx])
    have h2:B7 n (fun j=>((P6 (r :: s) 0 j).natAbs:Int)) = N8 r:=by
     rw [← hb r (by simp)];exact Ix r
    have h3:(fun i=>B7 n fun j=>((P6 (r :: s) (i + 1) j).natAbs:Int)) = fun i=>B7 n fun j=>((P6 s i j).natAbs:Int):=rfl
    rw [h2,h3]
    have h4:=NR r
    exact Int.mul_le_mul (by unfold Da;omega) h1 (Ft fun i _=>DI fun j _=>Int.natCast_nonneg _) (by unfold Da;omega)
 exact key a.length a h
def H1 (a:List (List Int)):Int :=
 if a.length = 0 then 18 else if 5 < a.length then 1 else if a.any (fun r=>decide (r.length ≠ a.length)) then 17
 else if a.any (fun r=>r.any fun x=>decide (x < -2147483648 ∨ 2147483648 < x)) then 2 else if 1329227995784915872903807060280344576 < T3 a then 14 else 0
end Go.Proofs.YtbhegmcbpolemaaDoor

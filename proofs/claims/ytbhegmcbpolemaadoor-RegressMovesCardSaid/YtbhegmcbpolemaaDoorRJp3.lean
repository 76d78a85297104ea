/- Determinants of matrices as lists, their sizes: plain. -/
import Derived.Test.YtbhegmcbpolemaaDoorRJp2
set_option linter.unusedVariables false
set_option linter.unnecessarySimpa false
set_option linter.unusedSimpArgs false
namespace Go.Proofs.YtbhegmcbpolemaaDoor
open Go Go.Av
attribute [local irreducible] E2 B3 F6 E9 DQ G2 H3 St.le B4 D7
set_option maxRecDepth 100000
def AR (a:Nat → Nat → Int):Nat → Nat → List Nat → Int
 | 0,_,_=>1
 | m + 1,r,F=>C1 (m + 1) fun j=>J2 j * a r (F.getD j 0) * AR a m (r + 1) (F.eraseIdx j)
theorem Fu (F:List Nat) (k j:Nat):(F.eraseIdx k).getD j 0 = F.getD (F0 k j) 0:=by
 rw [List.getD_eq_getElem?_getD,List.getElem?_eraseIdx,List.getD_eq_getElem?_getD]
 unfold F0
 split <;> rfl
theorem Is (a:Nat → Nat → Int):∀ (m r:Nat) (F:List Nat),AR a m r F = C3 m fun i j=>a (r + i) (F.getD j 0)
 | 0,_,_=>rfl
 | m + 1,r,F=>by
   rw [AR,C3]
   refine G8 fun j _=>?_
   rw [Is a m]
   congr 1
   refine I3 fun i k _ _=>?_
   rw [Fu]
   congr 1;omega
theorem NP (a:Nat → Nat → Int) (n:Nat):AR a n 0 (List.range n) = C3 n a:=by
 rw [Is]
 refine I3 fun i j _ hj=>?_
 rw [Nat.zero_add,List.getD_eq_getElem?_getD,List.getElem?_range hj];rfl
def N5 (tk:List Bool):List Nat:=(List.range tk.length).filter fun k=>!(tk.getD k true)
def M0 (tk:List Bool) (k:Nat):Nat:=((List.range k).filter fun k=>!(tk.getD k true)).length
theorem Cy {k n:Nat} (h:k < n):List.range n = List.range k ++ k :: List.range' (k + 1) (n - k - 1):=by
 rw [List.range_eq_range',List.range_eq_range', ← List.range'_succ]
 have:=List.range'_append_1 (s:=0) (m:=k) (n:=n - k - 1 + 1)
 rw [Nat.zero_add] at this
 rw [this]
 congr 1;omega
theorem Jz {tk:List Bool} {k:Nat} (h:tk[k]? = some false):M0 tk (k + 1) = M0 tk k + 1:=by
 unfold M0
 rw [List.range_succ,List.filter_append]
 simp [List.getD_eq_getElem?_getD,h]
theorem KA {tk:List Bool} {k:Nat} (h:tk[k]? = some true):M0 tk (k + 1) = M0 tk k:=by
 unfold M0
 rw [List.range_succ,List.filter_append]
 simp [List.getD_eq_getElem?_getD,h]
theorem PH (tk:List Bool):M0 tk tk.length = (N5 tk).length:=rfl
theorem PI {tk:List Bool} {k:Nat} (h:tk[k]? = some false):(N5 tk).getD (M0 tk k) 0 = k ∧ M0 tk k < (N5 tk).length:=by
 have hk:k < tk.length:=(List.getElem?_eq_some_iff.1 h).1
 unfold N5 M0
 rw [Cy hk,List.filter_append,List.filter_cons,if_pos (by simp [List.getD_eq_getElem?_getD,h])]
 constructor
 ·rw [List.getD_eq_getElem?_getD,List.getElem?_append_right (Nat.le_refl _)];simp
 ·simp
theorem NQ {tk:List Bool} {k:Nat} (h:tk[k]? = some false):N5 (tk.set k true) = (N5 tk).eraseIdx (M0 tk k):=by
 have hk:k < tk.length:=(List.getElem?_eq_some_iff.1 h).1
 unfold N5 M0
 rw [List.length_set,Cy hk,List.filter_append,List.filter_append,List.filter_cons,List.filter_cons,if_neg (by simp [List.getD_eq_getElem?_getD,hk]),if_pos (by simp [List.getD_eq_getElem?_getD,h])]
 rw [List.eraseIdx_append_of_length_le (Nat.le_refl _),Nat.sub_self,List.eraseIdx_cons_zero]
 congr 1
 ·refine List.filter_congr fun j hj=>?_
  have:j < k:=List.mem_range.1 hj
  simp [List.getD_eq_getElem?_getD,List.getElem?_set,show k ≠ j by omega]
 ·refine List.filter_congr fun j hj=>?_
  have:k + 1 ≤ j:=(List.mem_range'_1.1 hj).1
  simp [List.getD_eq_getElem?_getD,List.getElem?_set,show k ≠ j by omega]
theorem Ff (n:Nat):N5 (List.replicate n false) = List.range n:=by
 unfold N5
 rw [List.length_replicate]
 refine List.filter_eq_self.2 fun k hk=>?_
 simp [List.getD_eq_getElem?_getD,List.getElem?_replicate,List.mem_range.1 hk]
def P1 (a:List (List Int)) (i j:Nat):Int:=(a.getD i []).getD j 0
theorem QO {a:List (List Int)} {i j:Nat} {r:List Int} {x:Int} (h:a[i]? = some r) (hj:r[j]? = some x):P1 a i j = x:=by
 simp [P1,List.getD_eq_getElem?_getD,h,hj]
def F5 (a:List (List Int)):Int:=C3 a.length (P1 a)
def M6:List Int → Int
 | []=>0
 | x :: r=>max x (-x) + M6 r
def BK (r:List Int):Int:=max (M6 r) 1
def O1:List (List Int) → Int
 | []=>1
 | r :: s=>BK r * O1 s
theorem NR (r:List Int):0 ≤ M6 r:=by
 induction r with
 | nil=>exact Int.le_refl _
 | cons x r ih=>simp only [M6];omega
theorem HO (a:List (List Int)):1 ≤ O1 a:=by
 induction a with
 | nil=>exact Int.le_refl _
 | cons r s ih =>
   simp only [O1]
   have h1:1 ≤ BK r:=by unfold BK;omega
   have:=Int.mul_le_mul h1 ih (by omega) (by omega)
   omega
theorem LY {r:List Int} {k:Nat} {x:Int} (h:r[k]? = some x):M6 (r.drop k) = max x (-x) + M6 (r.drop (k + 1)):=by
 rw [List.drop_eq_getElem_cons (List.getElem?_eq_some_iff.1 h).1,(List.getElem?_eq_some_iff.1 h).2,M6]
theorem LZ {a:List (List Int)} {k:Nat} {r:List Int} (h:a[k]? = some r):O1 (a.drop k) = BK r * O1 (a.drop (k + 1)):=by
 rw [List.drop_eq_getElem_cons (List.getElem?_eq_some_iff.1 h).1,(List.getElem?_eq_some_iff.1 h).2,O1]
theorem It:∀ (r:List Int),C1 r.length (fun j=>((r.getD j 0).natAbs:Int)) = M6 r
 | []=>rfl
 | x :: r=>by
   rw [List.length_cons,M6, ← It r]
   have:∀ n (f:Nat → Int),C1 (n + 1) f = f 0 + C1 n fun j=>f (j + 1):=fun n f=>by
    induction n with
    | zero=>simp [C1]
    | succ n ih=>rw [C1,ih,C1];omega
   rw [this]
   simp only [List.getD_cons_zero,List.getD_cons_succ]
   omega
theorem PJ (a:List (List Int)) (h:∀ r ∈ a,r.length = a.length):((F5 a).natAbs:Int) ≤ O1 a:=by
 refine Int.le_trans (PB a.length (P1 a)) ?_
 have key:∀ (n:Nat) (b:List (List Int)),(∀ r ∈ b,r.length = n) → J0 b.length (fun i=>C1 n fun j=>((P1 b i j).natAbs:Int)) ≤ O1 b:=by
  intro n b
  induction b with
  | nil=>intro _;exact Int.le_refl _
  | cons r s ih =>
    intro hb
    simp only [List.length_cons,J0,O1]
    have h1:=ih fun x hx=>hb x (by simp [hx])
    have h2:C1 n (fun j=>((P1 (r :: s) 0 j).natAbs:Int)) = M6 r:=by
     rw [← hb r (by simp)];exact It r
    have h3:(fun i=>C1 n fun j=>((P1 (r :: s) (i + 1) j).natAbs:Int)) = fun i=>C1 n fun j=>((P1 s i j).natAbs:Int):=rfl
    rw [h2,h3]
    have h4:=NR r
    exact Int.mul_le_mul (by unfold BK;omega) h1 (Fb fun i _=>Cw fun j _=>Int.natCast_nonneg _) (by unfold BK;omega)
 exact key a.length a h
def H4 (a:List (List Int)):Int :=
 if a.length = 0 then 18 else if 5 < a.length then 1 else if a.any (fun r=>decide (r.length ≠ a.length)) then 17
 else if a.any (fun r=>r.any fun x=>decide (x < -2147483648 ∨ 2147483648 < x)) then 2 else if 1329227995784915872903807060280344576 < O1 a then 14 else 0
end Go.Proofs.YtbhegmcbpolemaaDoor

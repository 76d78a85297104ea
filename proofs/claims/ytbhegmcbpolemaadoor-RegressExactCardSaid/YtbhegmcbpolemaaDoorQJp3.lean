/- Determinants of matrices as lists, their sizes: plain. -/
import Derived.Test.YtbhegmcbpolemaaDoorQJp2
set_option linter.unusedVariables false
set_option linter.unnecessarySimpa false
set_option linter.unusedSimpArgs false
namespace Go.Proofs.YtbhegmcbpolemaaDoor
open Go Go.Av
attribute [local irreducible] E2 B3 G0 F3 DQ H4 H7 St.le B7 E1
set_option maxRecDepth 100000
def AA (a:Nat → Nat → Int):Nat → Nat → List Nat → Int
 | 0,_,_=>1
 | m + 1,r,F=>B8 (m + 1) fun j=>I6 j * a r (F.getD j 0) * AA a m (r + 1) (F.eraseIdx j)
theorem FT (F:List Nat) (k j:Nat):(F.eraseIdx k).getD j 0 = F.getD (G2 k j) 0:=by
 rw [List.getD_eq_getElem?_getD,List.getElem?_eraseIdx,List.getD_eq_getElem?_getD]
 unfold G2
 split <;> rfl
theorem IF (a:Nat → Nat → Int):∀ (m r:Nat) (F:List Nat),AA a m r F = C5 m fun i j=>a (r + i) (F.getD j 0)
 | 0,_,_=>rfl
 | m + 1,r,F=>by
   rw [AA,C5]
   refine E8 fun j _=>?_
   rw [IF a m]
   congr 1
   refine H9 fun i k _ _=>?_
   rw [FT]
   congr 1;omega
theorem Mh (a:Nat → Nat → Int) (n:Nat):AA a n 0 (List.range n) = C5 n a:=by
 rw [IF]
 refine H9 fun i j _ hj=>?_
 rw [Nat.zero_add,List.getD_eq_getElem?_getD,List.getElem?_range hj];rfl
def M9 (tk:List Bool):List Nat:=(List.range tk.length).filter fun k=>!(tk.getD k true)
def L6 (tk:List Bool) (k:Nat):Nat:=((List.range k).filter fun k=>!(tk.getD k true)).length
theorem Cb {k n:Nat} (h:k < n):List.range n = List.range k ++ k :: List.range' (k + 1) (n - k - 1):=by
 rw [List.range_eq_range',List.range_eq_range', ← List.range'_succ]
 have:=List.range'_append_1 (s:=0) (m:=k) (n:=n - k - 1 + 1)
 rw [Nat.zero_add] at this
 rw [this]
 congr 1;omega
theorem JU {tk:List Bool} {k:Nat} (h:tk[k]? = some false):L6 tk (k + 1) = L6 tk k + 1:=by
 unfold L6
 rw [List.range_succ,List.filter_append]
 simp [List.getD_eq_getElem?_getD,h]
theorem JV {tk:List Bool} {k:Nat} (h:tk[k]? = some true):L6 tk (k + 1) = L6 tk k:=by
 unfold L6
 rw [List.range_succ,List.filter_append]
 simp [List.getD_eq_getElem?_getD,h]
theorem OV (tk:List Bool):L6 tk tk.length = (M9 tk).length:=rfl
theorem OW {tk:List Bool} {k:Nat} (h:tk[k]? = some false):(M9 tk).getD (L6 tk k) 0 = k ∧ L6 tk k < (M9 tk).length:=by
 have hk:k < tk.length:=(List.getElem?_eq_some_iff.1 h).1
 unfold M9 L6
 rw [Cb hk,List.filter_append,List.filter_cons,if_pos (by simp [List.getD_eq_getElem?_getD,h])]
 constructor
 ·rw [List.getD_eq_getElem?_getD,List.getElem?_append_right (Nat.le_refl _)];simp
 ·simp
theorem Mi {tk:List Bool} {k:Nat} (h:tk[k]? = some false):M9 (tk.set k true) = (M9 tk).eraseIdx (L6 tk k):=by
 have hk:k < tk.length:=(List.getElem?_eq_some_iff.1 h).1
 unfold M9 L6
 rw [List.length_set,Cb hk,List.filter_append,List.filter_append,List.filter_cons,List.filter_cons,if_neg (by simp [List.getD_eq_getElem?_getD,hk]),if_pos (by simp [List.getD_eq_getElem?_getD,h])]
 rw [List.eraseIdx_append_of_length_le (Nat.le_refl _),Nat.sub_self,List.eraseIdx_cons_zero]
 congr 1
 ·refine List.filter_congr fun j hj=>?_
  have:j < k:=List.mem_range.1 hj
  simp [List.getD_eq_getElem?_getD,List.getElem?_set,show k ≠ j by omega]
 ·refine List.filter_congr fun j hj=>?_
  have:k + 1 ≤ j:=(List.mem_range'_1.1 hj).1
  simp [List.getD_eq_getElem?_getD,List.getElem?_set,show k ≠ j by omega]
theorem FF (n:Nat):M9 (List.replicate n false) = List.range n:=by
 unfold M9
 rw [List.length_replicate]
 refine List.filter_eq_self.2 fun k hk=>?_
 simp [List.getD_eq_getElem?_getD,List.getElem?_replicate,List.mem_range.1 hk]
def P3 (a:List (List Int)) (i j:Nat):Int:=(a.getD i []).getD j 0
theorem Pk {a:List (List Int)} {i j:Nat} {r:List Int} {x:Int} (h:a[i]? = some r) (hj:r[j]? = some x):P3 a i j = x:=by
 simp [P3,List.getD_eq_getElem?_getD,h,hj]
def F1 (a:List (List Int)):Int:=C5 a.length (P3 a)
def M0:List Int → Int
 | []=>0
 | x :: r=>max x (-x) + M0 r
def Aq (r:List Int):Int:=max (M0 r) 1
def N5:List (List Int) → Int
 | []=>1
 | r :: s=>Aq r * N5 s
theorem Mj (r:List Int):0 ≤ M0 r:=by
 induction r with
 | nil=>exact Int.le_refl _
 | cons x r ih=>simp only [M0];omega
theorem Gp (a:List (List Int)):1 ≤ N5 a:=by
 induction a with
 | nil=>exact Int.le_refl _
 | cons r s ih =>
   simp only [N5]
   have h1:1 ≤ Aq r:=by unfold Aq;omega
   have:=Int.mul_le_mul h1 ih (by omega) (by omega)
   omega
theorem Ks {r:List Int} {k:Nat} {x:Int} (h:r[k]? = some x):M0 (r.drop k) = max x (-x) + M0 (r.drop (k + 1)):=by
 rw [List.drop_eq_getElem_cons (List.getElem?_eq_some_iff.1 h).1,(List.getElem?_eq_some_iff.1 h).2,M0]
theorem Kt {a:List (List Int)} {k:Nat} {r:List Int} (h:a[k]? = some r):N5 (a.drop k) = Aq r * N5 (a.drop (k + 1)):=by
 rw [List.drop_eq_getElem_cons (List.getElem?_eq_some_iff.1 h).1,(List.getElem?_eq_some_iff.1 h).2,N5]
theorem IG:∀ (r:List Int),B8 r.length (fun j=>((r.getD j 0).natAbs:Int)) = M0 r
 | []=>rfl
 | x :: r=>by
   rw [List.length_cons,M0, ← IG r]
   have:∀ n (f:Nat → Int),B8 (n + 1) f = f 0 + B8 n fun j=>f (j + 1):=fun n f=>by
    induction n with
    | zero=>simp [B8]
    | succ n ih=>rw [B8,ih,B8];omega
   rw [this]
   simp only [List.getD_cons_zero,List.getD_cons_succ]
   omega
theorem OX (a:List (List Int)) (h:∀ r ∈ a,r.length = a.length):((F1 a).natAbs:Int) ≤ N5 a:=by
 refine Int.le_trans (OP a.length (P3 a)) ?_
 have key:∀ (n:Nat) (b:List (List Int)),(∀ r ∈ b,r.length = n) → n5 b.length (fun i=>B8 n fun j=>((P3 b i j).natAbs:Int)) ≤ N5 b:=by
  intro n b
  induction b with
  | nil=>intro _;exact Int.le_refl _
  | cons r s ih =>
    intro hb
    simp only [List.length_cons,n5,N5]
    have h1:=ih fun x hx=>hb x (by simp [hx])
    have h2:B8 n (fun j=>((P3 (r :: s) 0 j).natAbs:Int)) = M0 r:=by
     rw [← hb r (by simp)];exact IG r
    have h3:(fun i=>B8 n fun j=>((P3 (r :: s) (i + 1) j).natAbs:Int)) = fun i=>B8 n fun j=>((P3 s i j).natAbs:Int):=rfl
    rw [h2,h3]
    have h4:=Mj r
    exact Int.mul_le_mul (by unfold Aq;omega) h1 (FC fun i _=>Ca fun j _=>Int.natCast_nonneg _) (by unfold Aq;omega)
 exact key a.length a h
def G8 (a:List (List Int)):Int :=
 if a.length = 0 then 18 else if 5 < a.length then 1 else if a.any (fun r=>decide (r.length ≠ a.length)) then 17
 else if a.any (fun r=>r.any fun x=>decide (x < -2147483648 ∨ 2147483648 < x)) then 2 else if 1329227995784915872903807060280344576 < N5 a then 14 else 0
end Go.Proofs.YtbhegmcbpolemaaDoor

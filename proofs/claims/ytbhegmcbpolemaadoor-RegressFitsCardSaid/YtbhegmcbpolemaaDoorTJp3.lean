/- Determinants of matrices as lists, their sizes: plain. -/
import Derived.Test.YtbhegmcbpolemaaDoorTJp2
set_option linter.unusedVariables false
set_option linter.unnecessarySimpa false
set_option linter.unusedSimpArgs false
namespace Go.Proofs.YtbhegmcbpolemaaDoor
open Go Go.Av
attribute [local irreducible] E4 B6 F1 E7 DQ F6 F9 St.le B5 D4
set_option maxRecDepth 100000
def AE (a:Nat → Nat → Int):Nat → Nat → List Nat → Int
 | 0,_,_=>1
 | m + 1,r,F=>E8 (m + 1) fun j=>S2 j * a r (F.getD j 0) * AE a m (r + 1) (F.eraseIdx j)
theorem BU (F:List Nat) (k j:Nat):(F.eraseIdx k).getD j 0 = F.getD (AW k j) 0:=by
 rw [List.getD_eq_getElem?_getD,List.getElem?_eraseIdx,List.getD_eq_getElem?_getD]
 unfold AW
 split <;> rfl
theorem Ie (a:Nat → Nat → Int):∀ (m r:Nat) (F:List Nat),AE a m r F = V1 m fun i j=>a (r + i) (F.getD j 0)
 | 0,_,_=>rfl
 | m + 1,r,F=>by
   rw [AE,V1]
   refine o5 fun j _=>?_
   rw [Ie a m]
   congr 1
   refine o6 fun i k _ _=>?_
   rw [BU]
   congr 1;omega
theorem Mp (a:Nat → Nat → Int) (n:Nat):AE a n 0 (List.range n) = V1 n a:=by
 rw [Ie]
 refine o6 fun i j _ hj=>?_
 rw [Nat.zero_add,List.getD_eq_getElem?_getD,List.getElem?_range hj];rfl
def N6 (tk:List Bool):List Nat:=(List.range tk.length).filter fun k=>!(tk.getD k true)
def M6 (tk:List Bool) (k:Nat):Nat:=((List.range k).filter fun k=>!(tk.getD k true)).length
theorem Cs {k n:Nat} (h:k < n):List.range n = List.range k ++ k :: List.range' (k + 1) (n - k - 1):=by
 rw [List.range_eq_range',List.range_eq_range', ← List.range'_succ]
 have:=List.range'_append_1 (s:=0) (m:=k) (n:=n - k - 1 + 1)
 rw [Nat.zero_add] at this
 rw [this]
 congr 1;omega
theorem Ji {tk:List Bool} {k:Nat} (h:tk[k]? = some false):M6 tk (k + 1) = M6 tk k + 1:=by
 unfold M6
 rw [List.range_succ,List.filter_append]
 simp [List.getD_eq_getElem?_getD,h]
theorem Jj {tk:List Bool} {k:Nat} (h:tk[k]? = some true):M6 tk (k + 1) = M6 tk k:=by
 unfold M6
 rw [List.range_succ,List.filter_append]
 simp [List.getD_eq_getElem?_getD,h]
theorem Oj (tk:List Bool):M6 tk tk.length = (N6 tk).length:=rfl
theorem Ok {tk:List Bool} {k:Nat} (h:tk[k]? = some false):(N6 tk).getD (M6 tk k) 0 = k ∧ M6 tk k < (N6 tk).length:=by
 have hk:k < tk.length:=(List.getElem?_eq_some_iff.1 h).1
 unfold N6 M6
 rw [Cs hk,List.filter_append,List.filter_cons,if_pos (by simp [List.getD_eq_getElem?_getD,h])]
 constructor
 ·rw [List.getD_eq_getElem?_getD,List.getElem?_append_right (Nat.le_refl _)];simp
 ·simp
theorem Mq {tk:List Bool} {k:Nat} (h:tk[k]? = some false):N6 (tk.set k true) = (N6 tk).eraseIdx (M6 tk k):=by
 have hk:k < tk.length:=(List.getElem?_eq_some_iff.1 h).1
 unfold N6 M6
 rw [List.length_set,Cs hk,List.filter_append,List.filter_append,List.filter_cons,List.filter_cons,if_neg (by simp [List.getD_eq_getElem?_getD,hk]),if_pos (by simp [List.getD_eq_getElem?_getD,h])]
 rw [List.eraseIdx_append_of_length_le (Nat.le_refl _),Nat.sub_self,List.eraseIdx_cons_zero]
 congr 1
 ·refine List.filter_congr fun j hj=>?_
  have:j < k:=List.mem_range.1 hj
  simp [List.getD_eq_getElem?_getD,List.getElem?_set,show k ≠ j by omega]
 ·refine List.filter_congr fun j hj=>?_
  have:k + 1 ≤ j:=(List.mem_range'_1.1 hj).1
  simp [List.getD_eq_getElem?_getD,List.getElem?_set,show k ≠ j by omega]
theorem Fc (n:Nat):N6 (List.replicate n false) = List.range n:=by
 unfold N6
 rw [List.length_replicate]
 refine List.filter_eq_self.2 fun k hk=>?_
 simp [List.getD_eq_getElem?_getD,List.getElem?_replicate,List.mem_range.1 hk]
def L2 (a:List (List Int)) (i j:Nat):Int:=(a.getD i []).getD j 0
theorem LA {a:List (List Int)} {i j:Nat} {r:List Int} {x:Int} (h:a[i]? = some r) (hj:r[j]? = some x):L2 a i j = x:=by
 simp [L2,List.getD_eq_getElem?_getD,h,hj]
def E9 (a:List (List Int)):Int:=V1 a.length (L2 a)
def K0:List Int → Int
 | []=>0
 | x :: r=>max x (-x) + K0 r
def b9 (r:List Int):Int:=max (K0 r) 1
def I4:List (List Int) → Int
 | []=>1
 | r :: s=>b9 r * I4 s
theorem HL (r:List Int):0 ≤ K0 r:=by
 induction r with
 | nil=>exact Int.le_refl _
 | cons x r ih=>simp only [K0];omega
theorem Ol {r:List Int} (h:∀ x ∈ r, -2147483648 ≤ x ∧ x ≤ 2147483648):K0 r ≤ 2147483648 * r.length:=by
 induction r with
 | nil=>simp [K0]
 | cons x r ih =>
   have h1:=ih fun y hy=>h y (by simp [hy])
   have h2:=h x (by simp)
   simp only [K0,List.length_cons];omega
theorem DO (a:List (List Int)):1 ≤ I4 a:=by
 induction a with
 | nil=>exact Int.le_refl _
 | cons r s ih =>
   simp only [I4]
   have h1:1 ≤ b9 r:=by unfold b9;omega
   have:=Int.mul_le_mul h1 ih (by omega) (by omega)
   omega
theorem Fe {r:List Int} {k:Nat} {x:Int} (h:r[k]? = some x):K0 (r.drop k) = max x (-x) + K0 (r.drop (k + 1)):=by
 rw [List.drop_eq_getElem_cons (List.getElem?_eq_some_iff.1 h).1,(List.getElem?_eq_some_iff.1 h).2,K0]
theorem LB {a:List (List Int)} {k:Nat} {r:List Int} (h:a[k]? = some r):I4 (a.drop k) = b9 r * I4 (a.drop (k + 1)):=by
 rw [List.drop_eq_getElem_cons (List.getElem?_eq_some_iff.1 h).1,(List.getElem?_eq_some_iff.1 h).2,I4]
theorem Ig:∀ (r:List Int),E8 r.length (fun j=>((r.getD j 0).natAbs:Int)) = K0 r
 | []=>rfl
 | x :: r=>by
   rw [List.length_cons,K0, ← Ig r]
   have:∀ n (f:Nat → Int),E8 (n + 1) f = f 0 + E8 n fun j=>f (j + 1):=fun n f=>by
    induction n with
    | zero=>simp [E8]
    | succ n ih=>rw [E8,ih,E8];omega
   rw [this]
   simp only [List.getD_cons_zero,List.getD_cons_succ]
   omega
theorem Om (a:List (List Int)) (h:∀ r ∈ a,r.length = a.length):((E9 a).natAbs:Int) ≤ I4 a:=by
 refine Int.le_trans (Oe a.length (L2 a)) ?_
 have key:∀ (n:Nat) (b:List (List Int)),(∀ r ∈ b,r.length = n) → o7 b.length (fun i=>E8 n fun j=>((L2 b i j).natAbs:Int)) ≤ I4 b:=by
  intro n b
  induction b with
  | nil=>intro _;exact Int.le_refl _
  | cons r s ih =>
    intro hb
    simp only [List.length_cons,o7,I4]
    have h1:=ih fun x hx=>hb x (by simp [hx])
    have h2:E8 n (fun j=>((L2 (r :: s) 0 j).natAbs:Int)) = K0 r:=by
     rw [← hb r (by simp)];exact Ig r
    have h3:(fun i=>E8 n fun j=>((L2 (r :: s) (i + 1) j).natAbs:Int)) = fun i=>E8 n fun j=>((L2 s i j).natAbs:Int):=rfl
    rw [h2,h3]
    have h4:=HL r
    exact Int.mul_le_mul (by unfold b9;omega) h1 (FY fun i _=>Cr fun j _=>Int.natCast_nonneg _) (by unfold b9;omega)
 exact key a.length a h
def F0 (a:List (List Int)):Int :=
 if a.length = 0 then 18 else if 5 < a.length then 1 else if a.any (fun r=>decide (r.length ≠ a.length)) then 17
 else if a.any (fun r=>r.any fun x=>decide (x < -2147483648 ∨ 2147483648 < x)) then 2 else if 1329227995784915872903807060280344576 < I4 a then 14 else 0
end Go.Proofs.YtbhegmcbpolemaaDoor

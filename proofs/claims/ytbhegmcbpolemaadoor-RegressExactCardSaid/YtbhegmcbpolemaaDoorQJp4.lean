/- Least squares: plain. -/
import Derived.Test.YtbhegmcbpolemaaDoorQJp3
set_option linter.unusedVariables false
set_option linter.unnecessarySimpa false
set_option linter.unusedSimpArgs false
namespace Go.Proofs.YtbhegmcbpolemaaDoor
open Go Go.Av
attribute [local irreducible] E2 B3 G0 F3 DQ H4 H7 St.le B7 E1
set_option maxRecDepth 100000
def C1 {α:Type}:List α → (α → Int) → Int
 | [],_=>0
 | x :: r,f=>f x + C1 r f
theorem Mm {α:Type} (l m:List α) (f:α → Int):C1 (l ++ m) f = C1 l f + C1 m f:=by
 induction l with
 | nil=>simp [C1]
 | cons x r ih=>rw [List.cons_append,C1,C1,ih,Int.add_assoc]
theorem Mn {α:Type} (x:α) (f:α → Int):C1 [x] f = f x:=by simp [C1]
theorem W7 {α:Type} {l:List α} {k:Nat} {x:α} (h:l[k]? = some x) (f:α → Int):C1 (l.take (k + 1)) f = C1 (l.take k) f + f x:=by
 rw [List.take_add_one,h,Option.toList_some,Mm,Mn]
theorem Cu {α β:Type} (g:α → β) (l:List α) (f:β → Int):C1 (l.map g) f = C1 l fun x=>f (g x):=by
 induction l with
 | nil=>rfl
 | cons x r ih=>rw [List.map_cons,C1,C1,ih]
theorem U1 {α:Type} {l:List α} {f g:α → Int} (h:∀ x ∈ l,f x = g x):C1 l f = C1 l g:=by
 induction l with
 | nil=>rfl
 | cons x r ih=>rw [C1,C1,h x (by simp),ih fun y hy=>h y (by simp [hy])]
theorem b8 {α:Type} {l:List α} {f:α → Int} {B:Int} (h:∀ x ∈ l, -B ≤ f x ∧ f x ≤ B):-(B * l.length) ≤ C1 l f ∧ C1 l f ≤ B * l.length:=by
 induction l with
 | nil=>simp [C1]
 | cons x r ih =>
   have h1:=ih fun y hy=>h y (by simp [hy])
   have h2:=h x (by simp)
   rw [C1,List.length_cons,Int.natCast_succ,Int.mul_add,Int.mul_one]
   omega
def D0 (l:List (List Int)) (n:Nat):List (List Int):=(List.range n).map fun i=>(List.range n).map fun j=>C1 l fun r=>r.getD i 0 * r.getD j 0
def E3 (l:List (List Int)):Nat:=(l.getD 0 []).length
def U5 (l:List (List Int)):Bool:=decide (1 ≤ l.length ∧ l.length ≤ 200 ∧ 1 ≤ E3 l ∧ E3 l ≤ 5) && l.all fun r=>decide (r.length = E3 l) && r.all fun x=>decide (-1000000 ≤ x ∧ x ≤ 1000000)
def C0 (r:List Int):List Int:=1 :: r.drop 1
def G4 (r:List Int):List Int:=C0 r ++ [r.getD 0 0]
def N0 (l:List (List Int)) (n:Nat):List Int:=(List.range n).map fun i=>C1 l fun r=>(C0 r).getD i 0 * r.getD 0 0
def J4 (a:List (List Int)) (b:List Int) (k:Nat):List (List Int):=(List.range a.length).map fun i=>(a.getD i []).set k (b.getD i 0)
def Y3 {α:Type} (f:Nat → Option α):Nat → Option (List α)
 | 0=>some []
 | k + 1=>match Y3 f k,f k with
   | some l,some x=>some (l ++ [x])
   | _,_=>none
theorem Kw {α:Type} {f:Nat → Option α} {k n:Nat} (h:f k = none) (hk:k < n):Y3 f n = none:=by
 induction n with
 | zero=>omega
 | succ n ih =>
   rw [Y3]
   by_cases e:k = n
   ·subst e;rw [h];split <;> simp_all
   ·rw [ih (by omega)]
theorem r9 {α:Type} {f:Nat → Option α}:∀ {n:Nat} {l:List α},Y3 f n = some l → l.length = n
 | 0,l,h=>by cases h;rfl
 | n + 1,l,h=>by
   rw [Y3] at h
   split at h
   ·rename_i l1 x h1 h2
    cases h
    rw [List.length_append,r9 h1];rfl
   ·cases h
theorem Gr {α:Type} {f:Nat → Option α}:∀ {n:Nat} {l:List α},Y3 f n = some l → ∀ k,k < n → l[k]? = f k
 | 0,l,h,k,hk=>by omega
 | n + 1,l,h,k,hk=>by
   rw [Y3] at h
   split at h
   ·rename_i l1 x h1 h2
    cases h
    have hl:=r9 h1
    by_cases e:k = n
    ·subst e
     rw [List.getElem?_append_right (by omega),hl,Nat.sub_self,h2];rfl
    ·rw [List.getElem?_append_left (by omega)]
     exact Gr h1 k (by omega)
   ·cases h
def T4 (f:Nat → Int):Nat → Int
 | 0=>0
 | k + 1=>if T4 f k ≠ 0 then T4 f k else f k
theorem IH {f:Nat → Int} {k n:Nat} (h0:T4 f k = 0) (h:f k ≠ 0) (hk:k < n):T4 f n = f k:=by
 induction n with
 | zero=>omega
 | succ n ih =>
   rw [T4]
   by_cases e:k = n
   ·subst e;rw [if_neg (by simp [h0])]
   ·rw [ih (by omega),if_pos h]
theorem Kx {f:Nat → Int} {n:Nat} (h:T4 f n = 0):∀ k,k < n → f k = 0:=by
 induction n with
 | zero=>intro k hk;omega
 | succ n ih =>
   rw [T4] at h
   by_cases h1:T4 f n = 0
   ·rw [if_neg (by simp [h1])] at h
    intro k hk
    by_cases e:k = n
    ·subst e;exact h
    ·exact ih h1 k (by omega)
   ·rw [if_pos h1] at h;exact absurd h h1
def U6 (a:List (List Int)) (b:List Int):Int × List (Int × Int) :=
 if G8 a ≠ 0 then (G8 a,[]) else if b.length ≠ a.length then (17,[])
 else if T4 (fun k=>G8 (J4 a b k)) a.length ≠ 0 then (T4 (fun k=>G8 (J4 a b k)) a.length,[])
 else if F1 a = 0 then (15,[])
 else match Y3 (fun k=>K5 (F1 (J4 a b k)) (F1 a)) a.length with
  | some l=>(0,l)
  | none=>(14,[])
def AB (a b:List (List Int)):Int × (Int × Int) :=
 if G8 a ≠ 0 then (G8 a,(0,0)) else if G8 b ≠ 0 then (G8 b,(0,0)) else if F1 b = 0 then (15,(0,0))
 else match K5 (F1 a) (F1 b) with
  | some p=>(0,p)
  | none=>(14,(0,0))
def Aw (l:List (List Int)):Option (Int × Int):=K5 (l.length * C1 l (fun r=>r.getD 0 0 * r.getD 0 0) - C1 l (fun r=>r.getD 0 0) * C1 l fun r=>r.getD 0 0) l.length
structure II where
 coefs:List (Int × Int)
 res:Int × Int
 tot:Int × Int
 cnt:Int
 free:Int
def Y4 (l:List (List Int)):Int × II :=
 if U5 l = true ∧ 2 ≤ E3 l ∧ E3 l ≤ 4 then
  if (U6 (D0 (l.map C0) (E3 l)) (N0 l (E3 l))).1 ≠ 0 then ((U6 (D0 (l.map C0) (E3 l)) (N0 l (E3 l))).1,⟨[],(0,0),(0,0),0,0⟩)
  else if (AB (D0 (l.map G4) (E3 l + 1)) (D0 (l.map C0) (E3 l))).1 ≠ 0 then ((AB (D0 (l.map G4) (E3 l + 1)) (D0 (l.map C0) (E3 l))).1,⟨[],(0,0),(0,0),0,0⟩)
  else match Aw l with
   | some t=>(0,⟨(U6 (D0 (l.map C0) (E3 l)) (N0 l (E3 l))).2,(AB (D0 (l.map G4) (E3 l + 1)) (D0 (l.map C0) (E3 l))).2,t,l.length,l.length - (U6 (D0 (l.map C0) (E3 l)) (N0 l (E3 l))).2.length⟩)
   | none=>(14,⟨[],(0,0),(0,0),0,0⟩)
 else (11,⟨[],(0,0),(0,0),0,0⟩)
end Go.Proofs.YtbhegmcbpolemaaDoor

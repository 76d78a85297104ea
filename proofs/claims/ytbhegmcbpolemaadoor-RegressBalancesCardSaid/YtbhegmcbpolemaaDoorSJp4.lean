/- Least squares: plain. -/
import Derived.Test.YtbhegmcbpolemaaDoorSJp3
set_option linter.unusedVariables false
set_option linter.unnecessarySimpa false
set_option linter.unusedSimpArgs false
namespace Go.Proofs.YtbhegmcbpolemaaDoor
open Go Go.Av
attribute [local irreducible] E3 B5 F2 F0 DQ F5 G8 St.le B6 D3
set_option maxRecDepth 100000
def C0 {α:Type}:List α → (α → Int) → Int
 | [],_=>0
 | x :: r,f=>f x + C0 r f
theorem NU {α:Type} (l m:List α) (f:α → Int):C0 (l ++ m) f = C0 l f + C0 m f:=by
 induction l with
 | nil=>simp [C0]
 | cons x r ih=>rw [List.cons_append,C0,C0,ih,Int.add_assoc]
theorem NV {α:Type} (x:α) (f:α → Int):C0 [x] f = f x:=by simp [C0]
theorem R1 {α:Type} {l:List α} {k:Nat} {x:α} (h:l[k]? = some x) (f:α → Int):C0 (l.take (k + 1)) f = C0 (l.take k) f + f x:=by
 rw [List.take_add_one,h,Option.toList_some,NU,NV]
theorem Dc {α β:Type} (g:α → β) (l:List α) (f:β → Int):C0 (l.map g) f = C0 l fun x=>f (g x):=by
 induction l with
 | nil=>rfl
 | cons x r ih=>rw [List.map_cons,C0,C0,ih]
theorem K6 {α:Type} {l:List α} {f g:α → Int} (h:∀ x ∈ l,f x = g x):C0 l f = C0 l g:=by
 induction l with
 | nil=>rfl
 | cons x r ih=>rw [C0,C0,h x (by simp),ih fun y hy=>h y (by simp [hy])]
theorem FD {α:Type} {l:List α} {f:α → Int} {B:Int} (h:∀ x ∈ l, -B ≤ f x ∧ f x ≤ B):-(B * l.length) ≤ C0 l f ∧ C0 l f ≤ B * l.length:=by
 induction l with
 | nil=>simp [C0]
 | cons x r ih =>
   have h1:=ih fun y hy=>h y (by simp [hy])
   have h2:=h x (by simp)
   rw [C0,List.length_cons,Int.natCast_succ,Int.mul_add,Int.mul_one]
   omega
def D2 (l:List (List Int)) (n:Nat):List (List Int):=(List.range n).map fun i=>(List.range n).map fun j=>C0 l fun r=>r.getD i 0 * r.getD j 0
def C8 (l:List (List Int)):Nat:=(l.getD 0 []).length
def X0 (l:List (List Int)):Bool:=decide (1 ≤ l.length ∧ l.length ≤ 200 ∧ 1 ≤ C8 l ∧ C8 l ≤ 5) && l.all fun r=>decide (r.length = C8 l) && r.all fun x=>decide (-1000000 ≤ x ∧ x ≤ 1000000)
def B8 (r:List Int):List Int:=1 :: r.drop 1
def H2 (r:List Int):List Int:=B8 r ++ [r.getD 0 0]
def N9 (l:List (List Int)) (n:Nat):List Int:=(List.range n).map fun i=>C0 l fun r=>(B8 r).getD i 0 * r.getD 0 0
def J9 (a:List (List Int)) (b:List Int) (k:Nat):List (List Int):=(List.range a.length).map fun i=>(a.getD i []).set k (b.getD i 0)
def n8 {α:Type} (f:Nat → Option α):Nat → Option (List α)
 | 0=>some []
 | k + 1=>match n8 f k,f k with
   | some l,some x=>some (l ++ [x])
   | _,_=>none
theorem Lc {α:Type} {f:Nat → Option α} {k n:Nat} (h:f k = none) (hk:k < n):n8 f n = none:=by
 induction n with
 | zero=>omega
 | succ n ih =>
   rw [n8]
   by_cases e:k = n
   ·subst e;rw [h];split <;> simp_all
   ·rw [ih (by omega)]
theorem w8 {α:Type} {f:Nat → Option α}:∀ {n:Nat} {l:List α},n8 f n = some l → l.length = n
 | 0,l,h=>by cases h;rfl
 | n + 1,l,h=>by
   rw [n8] at h
   split at h
   ·rename_i l1 x h1 h2
    cases h
    rw [List.length_append,w8 h1];rfl
   ·cases h
theorem Hf {α:Type} {f:Nat → Option α}:∀ {n:Nat} {l:List α},n8 f n = some l → ∀ k,k < n → l[k]? = f k
 | 0,l,h,k,hk=>by omega
 | n + 1,l,h,k,hk=>by
   rw [n8] at h
   split at h
   ·rename_i l1 x h1 h2
    cases h
    have hl:=w8 h1
    by_cases e:k = n
    ·subst e
     rw [List.getElem?_append_right (by omega),hl,Nat.sub_self,h2];rfl
    ·rw [List.getElem?_append_left (by omega)]
     exact Hf h1 k (by omega)
   ·cases h
def T4 (f:Nat → Int):Nat → Int
 | 0=>0
 | k + 1=>if T4 f k ≠ 0 then T4 f k else f k
theorem Iy {f:Nat → Int} {k n:Nat} (h0:T4 f k = 0) (h:f k ≠ 0) (hk:k < n):T4 f n = f k:=by
 induction n with
 | zero=>omega
 | succ n ih =>
   rw [T4]
   by_cases e:k = n
   ·subst e;rw [if_neg (by simp [h0])]
   ·rw [ih (by omega),if_pos h]
theorem Ld {f:Nat → Int} {n:Nat} (h:T4 f n = 0):∀ k,k < n → f k = 0:=by
 induction n with
 | zero=>intro k hk;omega
 | succ n ih =>
   rw [T4] at h
   by_cases h1:T4 f n = 0
   ·rw [if_neg (by simp [h1])] at h
    intro k hk
    by_cases e:k = n
    ·subst e;exact h
    ·exact ih h1 k (by omega)
   ·rw [if_pos h1] at h;exact absurd h h1
def U6 (a:List (List Int)) (b:List Int):Int × List (Int × Int) :=
 if H1 a ≠ 0 then (H1 a,[]) else if b.length ≠ a.length then (17,[])
 else if T4 (fun k=>H1 (J9 a b k)) a.length ≠ 0 then (T4 (fun k=>H1 (J9 a b k)) a.length,[])
 else if F8 a = 0 then (15,[])
 else match n8 (fun k=>J8 (F8 (J9 a b k)) (F8 a)) a.length with
  | some l=>(0,l)
  | none=>(14,[])
def j7 (a b:List (List Int)):Int × (Int × Int) :=
 if H1 a ≠ 0 then (H1 a,(0,0)) else if H1 b ≠ 0 then (H1 b,(0,0)) else if F8 b = 0 then (15,(0,0))
 else match J8 (F8 a) (F8 b) with
  | some p=>(0,p)
  | none=>(14,(0,0))
def CP (l:List (List Int)):Option (Int × Int):=J8 (l.length * C0 l (fun r=>r.getD 0 0 * r.getD 0 0) - C0 l (fun r=>r.getD 0 0) * C0 l fun r=>r.getD 0 0) l.length
structure CQ where
 coefs:List (Int × Int)
 res:Int × Int
 tot:Int × Int
 cnt:Int
 free:Int
def Y8 (l:List (List Int)):Int × CQ :=
 if X0 l = true ∧ 2 ≤ C8 l ∧ C8 l ≤ 4 then
  if (U6 (D2 (l.map B8) (C8 l)) (N9 l (C8 l))).1 ≠ 0 then ((U6 (D2 (l.map B8) (C8 l)) (N9 l (C8 l))).1,⟨[],(0,0),(0,0),0,0⟩)
  else if (j7 (D2 (l.map H2) (C8 l + 1)) (D2 (l.map B8) (C8 l))).1 ≠ 0 then ((j7 (D2 (l.map H2) (C8 l + 1)) (D2 (l.map B8) (C8 l))).1,⟨[],(0,0),(0,0),0,0⟩)
  else match CP l with
   | some t=>(0,⟨(U6 (D2 (l.map B8) (C8 l)) (N9 l (C8 l))).2,(j7 (D2 (l.map H2) (C8 l + 1)) (D2 (l.map B8) (C8 l))).2,t,l.length,l.length - (U6 (D2 (l.map B8) (C8 l)) (N9 l (C8 l))).2.length⟩)
   | none=>(14,⟨[],(0,0),(0,0),0,0⟩)
 else (11,⟨[],(0,0),(0,0),0,0⟩)
end Go.Proofs.YtbhegmcbpolemaaDoor

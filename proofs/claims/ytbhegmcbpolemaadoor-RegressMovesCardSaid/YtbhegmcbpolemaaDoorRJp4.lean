/- Least squares: plain. -/
import Derived.Test.YtbhegmcbpolemaaDoorRJp3
set_option linter.unusedVariables false
set_option linter.unnecessarySimpa false
set_option linter.unusedSimpArgs false
namespace Go.Proofs.YtbhegmcbpolemaaDoor
open Go Go.Av
attribute [local irreducible] E2 B3 F6 E9 DQ G2 H3 St.le B4 D7
set_option maxRecDepth 100000
def C0 {α:Type}:List α → (α → Int) → Int
 | [],_=>0
 | x :: r,f=>f x + C0 r f
theorem NT {α:Type} (l m:List α) (f:α → Int):C0 (l ++ m) f = C0 l f + C0 m f:=by
 induction l with
 | nil=>simp [C0]
 | cons x r ih=>rw [List.cons_append,C0,C0,ih,Int.add_assoc]
theorem NU {α:Type} (x:α) (f:α → Int):C0 [x] f = f x:=by simp [C0]
theorem Y1 {α:Type} {l:List α} {k:Nat} {x:α} (h:l[k]? = some x) (f:α → Int):C0 (l.take (k + 1)) f = C0 (l.take k) f + f x:=by
 rw [List.take_add_one,h,Option.toList_some,NT,NU]
theorem R7 {α β:Type} (g:α → β) (l:List α) (f:β → Int):C0 (l.map g) f = C0 l fun x=>f (g x):=by
 induction l with
 | nil=>rfl
 | cons x r ih=>rw [List.map_cons,C0,C0,ih]
theorem L7 {α:Type} {l:List α} {f g:α → Int} (h:∀ x ∈ l,f x = g x):C0 l f = C0 l g:=by
 induction l with
 | nil=>rfl
 | cons x r ih=>rw [C0,C0,h x (by simp),ih fun y hy=>h y (by simp [hy])]
theorem p9 {α:Type} {l:List α} {f:α → Int} {B:Int} (h:∀ x ∈ l, -B ≤ f x ∧ f x ≤ B):-(B * l.length) ≤ C0 l f ∧ C0 l f ≤ B * l.length:=by
 induction l with
 | nil=>simp [C0]
 | cons x r ih =>
   have h1:=ih fun y hy=>h y (by simp [hy])
   have h2:=h x (by simp)
   rw [C0,List.length_cons,Int.natCast_succ,Int.mul_add,Int.mul_one]
   omega
def C9 (l:List (List Int)) (n:Nat):List (List Int):=(List.range n).map fun i=>(List.range n).map fun j=>C0 l fun r=>r.getD i 0 * r.getD j 0
def E8 (l:List (List Int)):Nat:=(l.getD 0 []).length
def V8 (l:List (List Int)):Bool:=decide (1 ≤ l.length ∧ l.length ≤ 200 ∧ 1 ≤ E8 l ∧ E8 l ≤ 5) && l.all fun r=>decide (r.length = E8 l) && r.all fun x=>decide (-1000000 ≤ x ∧ x ≤ 1000000)
def B9 (r:List Int):List Int:=1 :: r.drop 1
def F9 (r:List Int):List Int:=B9 r ++ [r.getD 0 0]
def N6 (l:List (List Int)) (n:Nat):List Int:=(List.range n).map fun i=>C0 l fun r=>(B9 r).getD i 0 * r.getD 0 0
def K0 (a:List (List Int)) (b:List Int) (k:Nat):List (List Int):=(List.range a.length).map fun i=>(a.getD i []).set k (b.getD i 0)
def b8 {α:Type} (f:Nat → Option α):Nat → Option (List α)
 | 0=>some []
 | k + 1=>match b8 f k,f k with
   | some l,some x=>some (l ++ [x])
   | _,_=>none
theorem Lc {α:Type} {f:Nat → Option α} {k n:Nat} (h:f k = none) (hk:k < n):b8 f n = none:=by
 induction n with
 | zero=>omega
 | succ n ih =>
   rw [b8]
   by_cases e:k = n
   ·subst e;rw [h];split <;> simp_all
   ·rw [ih (by omega)]
theorem v7 {α:Type} {f:Nat → Option α}:∀ {n:Nat} {l:List α},b8 f n = some l → l.length = n
 | 0,l,h=>by cases h;rfl
 | n + 1,l,h=>by
   rw [b8] at h
   split at h
   ·rename_i l1 x h1 h2
    cases h
    rw [List.length_append,v7 h1];rfl
   ·cases h
theorem HQ {α:Type} {f:Nat → Option α}:∀ {n:Nat} {l:List α},b8 f n = some l → ∀ k,k < n → l[k]? = f k
 | 0,l,h,k,hk=>by omega
 | n + 1,l,h,k,hk=>by
   rw [b8] at h
   split at h
   ·rename_i l1 x h1 h2
    cases h
    have hl:=v7 h1
    by_cases e:k = n
    ·subst e
     rw [List.getElem?_append_right (by omega),hl,Nat.sub_self,h2];rfl
    ·rw [List.getElem?_append_left (by omega)]
     exact HQ h1 k (by omega)
   ·cases h
def U5 (f:Nat → Int):Nat → Int
 | 0=>0
 | k + 1=>if U5 f k ≠ 0 then U5 f k else f k
theorem Iu {f:Nat → Int} {k n:Nat} (h0:U5 f k = 0) (h:f k ≠ 0) (hk:k < n):U5 f n = f k:=by
 induction n with
 | zero=>omega
 | succ n ih =>
   rw [U5]
   by_cases e:k = n
   ·subst e;rw [if_neg (by simp [h0])]
   ·rw [ih (by omega),if_pos h]
theorem Ld {f:Nat → Int} {n:Nat} (h:U5 f n = 0):∀ k,k < n → f k = 0:=by
 induction n with
 | zero=>intro k hk;omega
 | succ n ih =>
   rw [U5] at h
   by_cases h1:U5 f n = 0
   ·rw [if_neg (by simp [h1])] at h
    intro k hk
    by_cases e:k = n
    ·subst e;exact h
    ·exact ih h1 k (by omega)
   ·rw [if_pos h1] at h;exact absurd h h1
def V9 (a:List (List Int)) (b:List Int):Int × List (Int × Int) :=
 if H4 a ≠ 0 then (H4 a,[]) else if b.length ≠ a.length then (17,[])
 else if U5 (fun k=>H4 (K0 a b k)) a.length ≠ 0 then (U5 (fun k=>H4 (K0 a b k)) a.length,[])
 else if F5 a = 0 then (15,[])
 else match b8 (fun k=>F7 (F5 (K0 a b k)) (F5 a)) a.length with
  | some l=>(0,l)
  | none=>(14,[])
def AU (a b:List (List Int)):Int × (Int × Int) :=
 if H4 a ≠ 0 then (H4 a,(0,0)) else if H4 b ≠ 0 then (H4 b,(0,0)) else if F5 b = 0 then (15,(0,0))
 else match F7 (F5 a) (F5 b) with
  | some p=>(0,p)
  | none=>(14,(0,0))
def n3 (l:List (List Int)):Option (Int × Int):=F7 (l.length * C0 l (fun r=>r.getD 0 0 * r.getD 0 0) - C0 l (fun r=>r.getD 0 0) * C0 l fun r=>r.getD 0 0) l.length
structure Iv where
 coefs:List (Int × Int)
 res:Int × Int
 tot:Int × Int
 cnt:Int
 free:Int
def O2 (l:List (List Int)):Int × Iv :=
 if V8 l = true ∧ 2 ≤ E8 l ∧ E8 l ≤ 4 then
  if (V9 (C9 (l.map B9) (E8 l)) (N6 l (E8 l))).1 ≠ 0 then ((V9 (C9 (l.map B9) (E8 l)) (N6 l (E8 l))).1,⟨[],(0,0),(0,0),0,0⟩)
  else if (AU (C9 (l.map F9) (E8 l + 1)) (C9 (l.map B9) (E8 l))).1 ≠ 0 then ((AU (C9 (l.map F9) (E8 l + 1)) (C9 (l.map B9) (E8 l))).1,⟨[],(0,0),(0,0),0,0⟩)
  else match n3 l with
   | some t=>(0,⟨(V9 (C9 (l.map B9) (E8 l)) (N6 l (E8 l))).2,(AU (C9 (l.map F9) (E8 l + 1)) (C9 (l.map B9) (E8 l))).2,t,l.length,l.length - (V9 (C9 (l.map B9) (E8 l)) (N6 l (E8 l))).2.length⟩)
   | none=>(14,⟨[],(0,0),(0,0),0,0⟩)
 else (11,⟨[],(0,0),(0,0),0,0⟩)
end Go.Proofs.YtbhegmcbpolemaaDoor

/- The program's determinant. -/
import Derived.Test.YtbhegmcbpolemaaDoorTJl1
import Derived.Test.YtbhegmcbpolemaaDoorTJp3
set_option linter.unusedVariables false
set_option linter.unnecessarySimpa false
set_option linter.unusedSimpArgs false
namespace Go.Proofs.YtbhegmcbpolemaaDoor
open Go Go.Av
attribute [local irreducible] E4 B6 F1 E7 DQ F6 F9 St.le B5 D4
set_option maxRecDepth 100000
instance:G7 Tryd.prog 95 [.nilFunc]:=.of (by kernel_rfl)
set_option maxHeartbeats 8000000 in
theorem Mt (M:List (List Int)) (hr:∀ r ∈ M,r.length = M.length) (hn:M.length ≤ 1000) (hx:∀ r ∈ M,∀ x ∈ r, -9223372036854775808 ≤ x ∧ x ≤ 9223372036854775807):B5 Tryd.prog 48 [B7 M] (D6 (E9 M)):=by
 have hv:=Jn M M.length rfl hr hn hx M.length 0 (List.replicate M.length false) 0 1 (by omega) (by simp) (by rw [Fc];simp)
 rw [Fc,Mp,Int.one_mul,Int.zero_add] at hv
 have h1:=Y5 1 (by decide) (by decide)
 have hz:(List.replicate M.length false).map P5 = List.replicate M.length [.b false]:=List.map_replicate
 rw [hz] at hv
 unfold E9
 generalize V1 M.length (L2 M) = D at *
 unfold Eu at hv
 refine D1 Tryd.func48 14 (fun hrd E h0=>?_) (hcells:=by intro t T h;cases h;exact ⟨2,inferInstance,fun l h=>by cases h;rfl⟩)
 clear hrd
 repeat' ((first | refine A4 h1 ?_ | (refine ⟨IX [2,4,3,5] [0,0,0,0] hv rfl rfl rfl rfl rfl rfl ⟨rfl,rfl,rfl,rfl,trivial⟩ rfl rfl rfl rfl rfl ?_⟩) | (refine l6 (id:=5) ⟨[(2, .ref 1 0),(3, .ref 2 0)],6,[(1,some (.box [uA 0,uA 0])),(2,some (.box (D3 D)))]⟩ ?_ ?_) |refine A5 ?_|refine S1 ?_|refine Z1 ?_|refine Z2 ?_|(refine And.intro ?_ ?_<;>intro h<;>try first|(exfalso;omega)|exact absurd rfl h)|refine Z3 ?_|refine Z4 ?_|intro el hel hbB|intro el hel|intro ex|refine Z5 ?_|(refine B0 ?_ ?_;exact ⟨by kernel_rfl,by decide⟩)|refine A9 ?_ ?_|exact A8|refine A7 ?_ ?_|exact A6|(refine A3 ?_ ?_ ?_;kernel_rfl;kernel_rfl) | (refine Kc 0 ?_;refine A5 ?_;(conv=>whnf);refine MU rfl rfl ?_)) <;> (try (conv=>whnf)))
 all_goals first
  | (exfalso;omega)
  | exact B4 h0 rfl ⟨rfl,rfl,trivial⟩ ⟨rfl,rfl,trivial⟩ rfl rfl rfl
  | exact F4 rfl rfl rfl
end Go.Proofs.YtbhegmcbpolemaaDoor
namespace Go.Proofs.YtbhegmcbpolemaaDoor
open Go Go.Av
attribute [local irreducible] E4 B6 F1 E7 DQ F6 F9 St.le B5 D4
set_option maxRecDepth 100000
def C8 {α:Type}:List α → (α → Int) → Int
 | [],_=>0
 | x :: r,f=>f x + C8 r f
theorem Mu {α:Type} (l m:List α) (f:α → Int):C8 (l ++ m) f = C8 l f + C8 m f:=by
 induction l with
 | nil=>simp [C8]
 | cons x r ih=>rw [List.cons_append,C8,C8,ih,Int.add_assoc]
theorem Mv {α:Type} (x:α) (f:α → Int):C8 [x] f = f x:=by simp [C8]
theorem O9 {α:Type} {l:List α} {k:Nat} {x:α} (h:l[k]? = some x) (f:α → Int):C8 (l.take (k + 1)) f = C8 (l.take k) f + f x:=by
 rw [List.take_add_one,h,Option.toList_some,Mu,Mv]
theorem p5 {α:Type} {l:List α} {f:α → Int} {B:Int} (h:∀ x ∈ l, -B ≤ f x ∧ f x ≤ B):-(B * l.length) ≤ C8 l f ∧ C8 l f ≤ B * l.length:=by
 induction l with
 | nil=>simp [C8]
 | cons x r ih =>
   have h1:=ih fun y hy=>h y (by simp [hy])
   have h2:=h x (by simp)
   rw [C8,List.length_cons,Int.natCast_succ,Int.mul_add,Int.mul_one]
   omega
def G9 (l:List (List Int)) (n:Nat):List (List Int):=(List.range n).map fun i=>(List.range n).map fun j=>C8 l fun r=>r.getD i 0 * r.getD j 0
def H8 (l:List (List Int)):Nat:=(l.getD 0 []).length
def P6 (l:List (List Int)):Bool:=decide (1 ≤ l.length ∧ l.length ≤ 200 ∧ 1 ≤ H8 l ∧ H8 l ≤ 5) && l.all fun r=>decide (r.length = H8 l) && r.all fun x=>decide (-1000000 ≤ x ∧ x ≤ 1000000)
def C9 (r:List Int):List Int:=1 :: r.drop 1
def I0 (r:List Int):List Int:=C9 r ++ [r.getD 0 0]
def AF (l:List (List Int)) (n:Nat):List Int:=(List.range n).map fun i=>C8 l fun r=>(C9 r).getD i 0 * r.getD 0 0
def I5 (a:List (List Int)) (b:List Int) (k:Nat):List (List Int):=(List.range a.length).map fun i=>(a.getD i []).set k (b.getD i 0)
def m5 {α:Type} (f:Nat → Option α):Nat → Option (List α)
 | 0=>some []
 | k + 1=>match m5 f k,f k with
   | some l,some x=>some (l ++ [x])
   | _,_=>none
theorem Fk {α:Type} {f:Nat → Option α} {k n:Nat} (h:f k = none) (hk:k < n):m5 f n = none:=by
 induction n with
 | zero=>omega
 | succ n ih =>
   rw [m5]
   by_cases e:k = n
   ·subst e;rw [h];split <;> simp_all
   ·rw [ih (by omega)]
theorem BE {α:Type} {f:Nat → Option α}:∀ {n:Nat} {l:List α},m5 f n = some l → l.length = n
 | 0,l,h=>by cases h;rfl
 | n + 1,l,h=>by
   rw [m5] at h
   split at h
   ·rename_i l1 x h1 h2
    cases h
    rw [List.length_append,BE h1];rfl
   ·cases h
def V3 (f:Nat → Int):Nat → Int
 | 0=>0
 | k + 1=>if V3 f k ≠ 0 then V3 f k else f k
theorem CX {f:Nat → Int} {k n:Nat} (h0:V3 f k = 0) (h:f k ≠ 0) (hk:k < n):V3 f n = f k:=by
 induction n with
 | zero=>omega
 | succ n ih =>
   rw [V3]
   by_cases e:k = n
   ·subst e;rw [if_neg (by simp [h0])]
   ·rw [ih (by omega),if_pos h]
theorem Fl {f:Nat → Int} {n:Nat} (h:V3 f n = 0):∀ k,k < n → f k = 0:=by
 induction n with
 | zero=>intro k hk;omega
 | succ n ih =>
   rw [V3] at h
   by_cases h1:V3 f n = 0
   ·rw [if_neg (by simp [h1])] at h
    intro k hk
    by_cases e:k = n
    ·subst e;exact h
    ·exact ih h1 k (by omega)
   ·rw [if_pos h1] at h;exact absurd h h1
def m6 (a:List (List Int)) (b:List Int):Int × List (Int × Int) :=
 if F0 a ≠ 0 then (F0 a,[]) else if b.length ≠ a.length then (17,[])
 else if V3 (fun k=>F0 (I5 a b k)) a.length ≠ 0 then (V3 (fun k=>F0 (I5 a b k)) a.length,[])
 else if E9 a = 0 then (15,[])
 else match m5 (fun k=>M4 (E9 (I5 a b k)) (E9 a)) a.length with
  | some l=>(0,l)
  | none=>(14,[])
def BF (a b:List (List Int)):Int × (Int × Int) :=
 if F0 a ≠ 0 then (F0 a,(0,0)) else if F0 b ≠ 0 then (F0 b,(0,0)) else if E9 b = 0 then (15,(0,0))
 else match M4 (E9 a) (E9 b) with
  | some p=>(0,p)
  | none=>(14,(0,0))
def CE (l:List (List Int)):Option (Int × Int):=M4 (l.length * C8 l (fun r=>r.getD 0 0 * r.getD 0 0) - C8 l (fun r=>r.getD 0 0) * C8 l fun r=>r.getD 0 0) l.length
structure LF where
 coefs:List (Int × Int)
 res:Int × Int
 tot:Int × Int
 cnt:Int
 free:Int
def BG (l:List (List Int)):Int × LF :=
 if P6 l = true ∧ 2 ≤ H8 l ∧ H8 l ≤ 4 then
  if (m6 (G9 (l.map C9) (H8 l)) (AF l (H8 l))).1 ≠ 0 then ((m6 (G9 (l.map C9) (H8 l)) (AF l (H8 l))).1,⟨[],(0,0),(0,0),0,0⟩)
  else if (BF (G9 (l.map I0) (H8 l + 1)) (G9 (l.map C9) (H8 l))).1 ≠ 0 then ((BF (G9 (l.map I0) (H8 l + 1)) (G9 (l.map C9) (H8 l))).1,⟨[],(0,0),(0,0),0,0⟩)
  else match CE l with
   | some t=>(0,⟨(m6 (G9 (l.map C9) (H8 l)) (AF l (H8 l))).2,(BF (G9 (l.map I0) (H8 l + 1)) (G9 (l.map C9) (H8 l))).2,t,l.length,l.length - (m6 (G9 (l.map C9) (H8 l)) (AF l (H8 l))).2.length⟩)
   | none=>(14,⟨[],(0,0),(0,0),0,0⟩)
 else (11,⟨[],(0,0),(0,0),0,0⟩)
end Go.Proofs.YtbhegmcbpolemaaDoor

/- Least squares: what determinants say of it. Plain. -/
import Derived.Test.YtbhegmcbpolemaaDoorTJp4
set_option linter.unusedVariables false
set_option linter.unnecessarySimpa false
set_option linter.unusedSimpArgs false
namespace Go.Proofs.YtbhegmcbpolemaaDoor
open Go Go.Av
attribute [local irreducible] E4 B6 F1 E7 DQ F6 F9 St.le B5 D4
set_option maxRecDepth 100000
def gF (l:List (List Int)) (i j:Nat):Int:=C8 l fun r=>(C9 r).getD i 0 * (C9 r).getD j 0
def bF (l:List (List Int)) (i:Nat):Int:=C8 l fun r=>(C9 r).getD i 0 * r.getD 0 0
def yF (l:List (List Int)):Int:=C8 l fun r=>r.getD 0 0 * r.getD 0 0
def dF (l:List (List Int)) (n:Nat):Int:=V1 n (gF l)
def kF (l:List (List Int)) (n k:Nat):Int:=V1 n (RN (gF l) k (bF l))
def rF (l:List (List Int)) (n:Nat):Int:=dF l n * yF l - E8 n fun k=>bF l k * kF l n k
theorem Fm (l:List (List Int)) (n:Nat):(G9 l n).length = n:=by simp [G9]
theorem BH (a:List (List Int)) (b:List Int) (k:Nat):(I5 a b k).length = a.length:=by simp [I5]
end Go.Proofs.YtbhegmcbpolemaaDoor
namespace Go.Proofs.YtbhegmcbpolemaaDoor
open Go Go.Av
attribute [local irreducible] E4 B6 F1 E7 DQ F6 F9 St.le B5 D4
set_option maxRecDepth 100000
theorem R4 {α:Type} {l:List α} {p:α → Bool} (h:∀ x ∈ l,p x = false):l.any p = false:=by
 cases e:l.any p with
 | false=>rfl
 | true =>
   obtain ⟨x,hx,hp⟩:=List.any_eq_true.1 e
   rw [h x hx] at hp;cases hp
theorem X6 {l:List (List Int)} {r:List Int} (h:l[0]? = some r):H8 l = r.length:=by
 unfold H8;rw [List.getD_eq_getElem?_getD,h];rfl
theorem P7 (l:List (List Int)):P6 l = true ↔ (1 ≤ l.length ∧ l.length ≤ 200 ∧ 1 ≤ H8 l ∧ H8 l ≤ 5) ∧ ∀ r ∈ l,r.length = H8 l ∧ ∀ x ∈ r, -1000000 ≤ x ∧ x ≤ 1000000:=by
 unfold P6
 rw [Bool.and_eq_true,decide_eq_true_iff,List.all_eq_true]
 refine and_congr_right fun _=>forall_congr' fun r=>forall_congr' fun _=>?_
 rw [Bool.and_eq_true,decide_eq_true_iff,List.all_eq_true]
 refine and_congr_right fun _=>forall_congr' fun x=>forall_congr' fun _=>?_
 rw [decide_eq_true_iff]
structure Fitted (l:List (List Int)) (n:Nat) (m:LF):Prop where
 det:dF l n ≠ 0
 len:m.coefs.length = n
 coef:∀ k,k < n → m.coefs[k]? = M4 (kF l n k) (dF l n)
 res:M4 (rF l n) (dF l n) = some m.res
 tot:CE l = some m.tot
 cnt:m.cnt = l.length
 free:m.free = l.length - n
end Go.Proofs.YtbhegmcbpolemaaDoor

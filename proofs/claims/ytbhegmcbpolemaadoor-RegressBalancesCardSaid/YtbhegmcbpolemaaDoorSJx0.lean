/- Chapter 19: rows on a plane, plain. -/
import Derived.Test.YtbhegmcbpolemaaDoorSJp7
set_option linter.unusedVariables false
set_option linter.unnecessarySimpa false
set_option linter.unusedSimpArgs false
namespace Go.Proofs.YtbhegmcbpolemaaDoor
open Go Go.Av
attribute [local irreducible] E3 B5 F2 F0 DQ F5 G8 St.le B6 D3
set_option maxRecDepth 100000
theorem k0 {a b A B:Int} (h1:-A ≤ a ∧ a ≤ A) (h2:-B ≤ b ∧ b ≤ B):-(A * B) ≤ a * b ∧ a * b ≤ A * B:=by
 have e:((a * b).natAbs:Int) ≤ A * B:=by
  rw [Int.natAbs_mul,Int.natCast_mul]
  exact Int.mul_le_mul (by omega) (by omega) (by omega) (by omega)
 omega
theorem KC {r:List Int} {B:Int} (h0:0 ≤ B) (h:∀ x ∈ r, -B ≤ x ∧ x ≤ B) (i:Nat):-B ≤ r.getD i 0 ∧ r.getD i 0 ≤ B:=by
 rw [List.getD_eq_getElem?_getD]
 cases e:r[i]? with
 | none=>simp;omega
 | some x=>exact h x (List.mem_of_getElem? e)
end Go.Proofs.YtbhegmcbpolemaaDoor
namespace Go.Proofs.YtbhegmcbpolemaaDoor
open Go Go.Av
attribute [local irreducible] E3 B5 F2 F0 DQ F5 G8 St.le B6 D3
set_option maxRecDepth 100000
def Y9:Option (Int × Int) → Int × (Int × Int)
 | some r=>(0,r)
 | none=>(14,(0,0))
def Al (p q:Int × Int):Int × (Int × Int):=if okF p ∧ okF q then Y9 (J8 (p.1 * q.2 + q.1 * p.2) (p.2 * q.2)) else (11,(0,0))
def Am (p q:Int × Int):Int × (Int × Int):=if okF p ∧ okF q then Y9 (J8 (p.1 * q.2 - q.1 * p.2) (p.2 * q.2)) else (11,(0,0))
def AL (p q:Int × Int):Int × (Int × Int):=if okF p ∧ okF q then Y9 (J8 (p.1 * q.1) (p.2 * q.2)) else (11,(0,0))
def W2 (p:Int × Int) (x d:Int):Prop:=okF p ∧ p.1 * d = x * p.2
theorem Co {a:Int} (h:-mF ≤ a ∧ a ≤ mF):okF (a,1):=⟨show (1:Int) ≤ 1 by decide,show (1:Int) ≤ mF by decide,h.1,h.2,by simp⟩
theorem u3 {p:Int × Int} {x d:Int} (hd:d ≠ 0):W2 p x d ↔ J8 x d = some p:=(BR hd p).symm
theorem FF {a:Int} (h:-mF ≤ a ∧ a ≤ mF):W2 (a,1) a 1:=⟨Co h,rfl⟩
theorem An {p:Int × Int} (h:okF p):p.2 ≠ 0:=by have:=h.1;omega
theorem De {o:Option (Int × Int)} (h:(Y9 o).1 = 0):o = some (Y9 o).2:=by
 cases o with
 | none=>cases h
 | some r=>rfl
theorem FG {p q:Int × Int} {x y d:Int} (hp:W2 p x d) (hq:W2 q y d) (h:(Al p q).1 = 0):W2 (Al p q).2 (x + y) d:=by
 obtain ⟨hp1,hp2⟩:=hp
 obtain ⟨hq1,hq2⟩:=hq
 have np:=An hp1
 have nq:=An hq1
 unfold Al at h ⊢
 rw [if_pos ⟨hp1,hq1⟩] at h ⊢
 have h1:=(BR (Int.mul_ne_zero np nq) _).1 (De h)
 generalize (Y9 _).2 = r at *
 obtain ⟨h2,h3⟩:=h1
 refine ⟨h2,?_⟩
 have:(r.1 * d) * (p.2 * q.2) = ((x + y) * r.2) * (p.2 * q.2):=by grind
 exact Int.eq_of_mul_eq_mul_right (Int.mul_ne_zero np nq) this
theorem Pe {p q:Int × Int} {x y d:Int} (hp:W2 p x d) (hq:W2 q y d) (h:(Am p q).1 = 0):W2 (Am p q).2 (x - y) d:=by
 obtain ⟨hp1,hp2⟩:=hp
 obtain ⟨hq1,hq2⟩:=hq
 have np:=An hp1
 have nq:=An hq1
 unfold Am at h ⊢
 rw [if_pos ⟨hp1,hq1⟩] at h ⊢
 have h1:=(BR (Int.mul_ne_zero np nq) _).1 (De h)
 generalize (Y9 _).2 = r at *
 obtain ⟨h2,h3⟩:=h1
 refine ⟨h2,?_⟩
 have:(r.1 * d) * (p.2 * q.2) = ((x - y) * r.2) * (p.2 * q.2):=by grind
 exact Int.eq_of_mul_eq_mul_right (Int.mul_ne_zero np nq) this
theorem FH {p q:Int × Int} {x y d e:Int} (hp:W2 p x d) (hq:W2 q y e) (h:(AL p q).1 = 0):W2 (AL p q).2 (x * y) (d * e):=by
 obtain ⟨hp1,hp2⟩:=hp
 obtain ⟨hq1,hq2⟩:=hq
 have np:=An hp1
 have nq:=An hq1
 unfold AL at h ⊢
 rw [if_pos ⟨hp1,hq1⟩] at h ⊢
 have h1:=(BR (Int.mul_ne_zero np nq) _).1 (De h)
 generalize (Y9 _).2 = r at *
 obtain ⟨h2,h3⟩:=h1
 refine ⟨h2,?_⟩
 have:(r.1 * (d * e)) * (p.2 * q.2) = ((x * y) * r.2) * (p.2 * q.2):=by grind
 exact Int.eq_of_mul_eq_mul_right (Int.mul_ne_zero np nq) this
end Go.Proofs.YtbhegmcbpolemaaDoor

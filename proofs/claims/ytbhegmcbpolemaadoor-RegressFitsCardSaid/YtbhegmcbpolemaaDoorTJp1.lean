/- Fractions in lowest terms: plain. -/
import Derived.Test.YtbhegmcbpolemaaDoorTJp0
set_option linter.unusedVariables false
set_option linter.unnecessarySimpa false
set_option linter.unusedSimpArgs false
namespace Go.Proofs.YtbhegmcbpolemaaDoor
open Go Go.Av
attribute [local irreducible] E4 B6 F1 E7 DQ F6 F9 St.le B5 D4
set_option maxRecDepth 100000
abbrev mF:Int:=1152921504606846976
def okF (p:Int × Int):Prop:=1 ≤ p.2 ∧ p.2 ≤ mF ∧ -mF ≤ p.1 ∧ p.1 ≤ mF ∧ Int.gcd p.1 p.2 = 1
instance (p:Int × Int):Decidable (okF p):=by unfold okF;infer_instance
def EM (d:Int):Int:=if d < 0 then -1 else 1
def V2 (num den:Int):Int × Int:=(EM den * (num / Int.gcd num den),EM den * (den / Int.gcd num den))
def M4 (num den:Int):Option (Int × Int):=if okF (V2 num den) then some (V2 num den) else none
theorem Of (d a b:Int):Int.gcd (EM d * a) (EM d * b) = Int.gcd a b:=by
 unfold EM;split
 ·rw [Int.neg_one_mul,Int.neg_one_mul,Int.neg_gcd,Int.gcd_neg]
 ·rw [Int.one_mul,Int.one_mul]
theorem Ky {num den:Int} (h:den ≠ 0):1 ≤ (V2 num den).2 ∧ Int.gcd (V2 num den).1 (V2 num den).2 = 1 ∧ (V2 num den).1 * den = num * (V2 num den).2:=by
 have hg:0 < Int.gcd num den:=Int.gcd_pos_iff.2 (.inr h)
 have h1:num / Int.gcd num den * Int.gcd num den = num:=Int.ediv_mul_cancel (Int.gcd_dvd_left ..)
 have h2:den / Int.gcd num den * Int.gcd num den = den:=Int.ediv_mul_cancel (Int.gcd_dvd_right ..)
 have h3:Int.gcd (num / Int.gcd num den) (den / Int.gcd num den) = 1:=Int.gcd_ediv_gcd_ediv_gcd hg
 unfold V2
 refine ⟨?_,by rw [Of];exact h3,?_⟩
 ·clear h1 h3
  generalize Int.gcd num den = gg at *
  generalize den / (gg:Int) = d at *
  have hg':(0:Int) < (gg:Int):=by omega
  unfold EM
  dsimp only
  rcases Int.lt_trichotomy d 0 with hd | hd | hd
  ·have:d * (gg:Int) < 0:=Int.mul_neg_of_neg_of_pos hd hg'
   rw [if_pos (by omega)];omega
  ·subst hd;simp at h2;omega
  ·have:0 < d * (gg:Int):=Int.mul_pos hd hg'
   rw [if_neg (by omega)];omega
 ·dsimp only
  generalize num / Int.gcd num den = n at *
  generalize den / Int.gcd num den = d at *
  generalize (Int.gcd num den) = g at *
  generalize EM den = s
  rw [← h1, ← h2]
  grind
theorem FZ {num den:Int} (h:den ≠ 0):M4 num den =
  if (num.natAbs / Nat.gcd den.natAbs num.natAbs:Nat) ≤ 1152921504606846976 ∧ (den.natAbs / Nat.gcd den.natAbs num.natAbs:Nat) ≤ 1152921504606846976 then
   some ((if den < 0 then -num else num).sign * (num.natAbs / Nat.gcd den.natAbs num.natAbs:Nat),((den.natAbs / Nat.gcd den.natAbs num.natAbs:Nat):Int)) else none:=by
 obtain ⟨h1,h2,h3⟩:=Ky (num:=num) h
 have eg:Int.gcd num den = Nat.gcd den.natAbs num.natAbs:=by rw [Nat.gcd_comm];rfl
 have ed:(V2 num den).2 = ((den.natAbs / Nat.gcd den.natAbs num.natAbs:Nat):Int):=by
  unfold V2 EM
  dsimp only
  rw [← eg,Int.natCast_ediv]
  split
  ·rw [show ((den.natAbs:Nat):Int) = -den by omega,Int.neg_ediv_of_dvd (Int.gcd_dvd_right ..)];omega
  ·rw [show ((den.natAbs:Nat):Int) = den by omega];omega
 have en:(V2 num den).1 = (if den < 0 then -num else num).sign * (num.natAbs / Nat.gcd den.natAbs num.natAbs:Nat):=by
  unfold V2 EM
  dsimp only
  rw [← eg,Int.natCast_ediv]
  have:∀ z:Int,z.sign * ((num.natAbs:Int) / (Int.gcd num den:Int)) = (z.sign * (num.natAbs:Int)) / (Int.gcd num den:Int):=fun z =>
   (Int.mul_ediv_assoc _ (Int.dvd_natAbs.2 (Int.gcd_dvd_left ..))).symm
  rw [this]
  split
  ·rw [Int.sign_neg,show -num.sign * (num.natAbs:Int) = -num by rw [Int.neg_mul,Int.sign_mul_natAbs],Int.neg_ediv_of_dvd (Int.gcd_dvd_left ..)];omega
  ·rw [Int.sign_mul_natAbs];omega
 have hn:(V2 num den).1.natAbs = num.natAbs / Nat.gcd den.natAbs num.natAbs:=by
  rw [en,Int.natAbs_mul,Int.natAbs_natCast]
  by_cases h0:num = 0
  ·subst h0;simp
  ·have:(if den < 0 then -num else num).sign.natAbs = 1:=by
    split
    ·rw [Int.sign_neg,Int.natAbs_neg,Int.natAbs_sign_of_ne_zero h0]
    ·exact Int.natAbs_sign_of_ne_zero h0
   rw [this,Nat.one_mul]
 unfold M4
 have ho:okF (V2 num den) ↔ (num.natAbs / Nat.gcd den.natAbs num.natAbs:Nat) ≤ 1152921504606846976 ∧ (den.natAbs / Nat.gcd den.natAbs num.natAbs:Nat) ≤ 1152921504606846976:=by
  rw [← hn]
  unfold okF mF
  rw [h2]
  rw [ed] at h1 ⊢
  generalize den.natAbs / Nat.gcd den.natAbs num.natAbs = x at *
  generalize (V2 num den).1 = y at *
  omega
 by_cases hc:okF (V2 num den)
 ·rw [if_pos hc,if_pos (ho.1 hc), ← en, ← ed]
 ·rw [if_neg hc,if_neg fun h=>hc (ho.2 h)]
end Go.Proofs.YtbhegmcbpolemaaDoor

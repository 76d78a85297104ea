/- Fractions in lowest terms: plain. -/
import Derived.Test.YtbhegmcbpolemaaDoorSJp0
set_option linter.unusedVariables false
set_option linter.unnecessarySimpa false
set_option linter.unusedSimpArgs false
namespace Go.Proofs.YtbhegmcbpolemaaDoor
open Go Go.Av
attribute [local irreducible] E3 B5 F2 F0 DQ F5 G8 St.le B6 D3
set_option maxRecDepth 100000
abbrev mF:Int:=1152921504606846976
def okF (p:Int × Int):Prop:=1 ≤ p.2 ∧ p.2 ≤ mF ∧ -mF ≤ p.1 ∧ p.1 ≤ mF ∧ Int.gcd p.1 p.2 = 1
instance (p:Int × Int):Decidable (okF p):=by unfold okF;infer_instance
def Eb (d:Int):Int:=if d < 0 then -1 else 1
def T1 (num den:Int):Int × Int:=(Eb den * (num / Int.gcd num den),Eb den * (den / Int.gcd num den))
def J8 (num den:Int):Option (Int × Int):=if okF (T1 num den) then some (T1 num den) else none
theorem PL (d a b:Int):Int.gcd (Eb d * a) (Eb d * b) = Int.gcd a b:=by
 unfold Eb;split
 ·rw [Int.neg_one_mul,Int.neg_one_mul,Int.neg_gcd,Int.gcd_neg]
 ·rw [Int.one_mul,Int.one_mul]
theorem Fu {num den:Int} (h:den ≠ 0):1 ≤ (T1 num den).2 ∧ Int.gcd (T1 num den).1 (T1 num den).2 = 1 ∧ (T1 num den).1 * den = num * (T1 num den).2:=by
 have hg:0 < Int.gcd num den:=Int.gcd_pos_iff.2 (.inr h)
 have h1:num / Int.gcd num den * Int.gcd num den = num:=Int.ediv_mul_cancel (Int.gcd_dvd_left ..)
 have h2:den / Int.gcd num den * Int.gcd num den = den:=Int.ediv_mul_cancel (Int.gcd_dvd_right ..)
 have h3:Int.gcd (num / Int.gcd num den) (den / Int.gcd num den) = 1:=Int.gcd_ediv_gcd_ediv_gcd hg
 unfold T1
 refine ⟨?_,by rw [PL];exact h3,?_⟩
 ·clear h1 h3
  generalize Int.gcd num den = gg at *
  generalize den / (gg:Int) = d at *
  have hg':(0:Int) < (gg:Int):=by omega
  unfold Eb
  dsimp only
  rcases Int.lt_trichotomy d 0 with hd | hd | hd
  ·have:d * (gg:Int) < 0:=Int.mul_neg_of_neg_of_pos hd hg'
   rw [if_pos (by omega)];omega
  ·subst hd;simp at h2;omega
  ·have:0 < d * (gg:Int):=Int.mul_pos hd hg'
   rw [if_neg (by omega)];omega
 ·dsimp only
  generalize num / Int.gcd num den = n at *
  generalize den / Int.gcd num den = d at *
  generalize (Int.gcd num den) = g at *
  generalize Eb den = s
  rw [← h1, ← h2]
  grind
theorem PM {a b c d:Int} (hb:1 ≤ b) (hd:1 ≤ d) (h1:Int.gcd a b = 1) (h2:Int.gcd c d = 1) (h:a * d = c * b):a = c ∧ b = d:=by
 have e1:b ∣ d:=by
  have:b ∣ a * d:=by rw [h];exact Int.dvd_mul_left ..
  have h3:b.natAbs ∣ a.natAbs * d.natAbs:=by rw [← Int.natAbs_mul];exact Int.natAbs_dvd_natAbs.2 this
  have h4:Nat.Coprime b.natAbs a.natAbs:=by rw [Nat.Coprime,Nat.gcd_comm];exact h1
  exact Int.natAbs_dvd_natAbs.1 (h4.dvd_of_dvd_mul_left h3)
 have e2:d ∣ b:=by
  have:d ∣ c * b:=by rw [← h];exact Int.dvd_mul_left ..
  have h3:d.natAbs ∣ c.natAbs * b.natAbs:=by rw [← Int.natAbs_mul];exact Int.natAbs_dvd_natAbs.2 this
  have h4:Nat.Coprime d.natAbs c.natAbs:=by rw [Nat.Coprime,Nat.gcd_comm];exact h2
  exact Int.natAbs_dvd_natAbs.1 (h4.dvd_of_dvd_mul_left h3)
 have e3:b = d:=Int.le_antisymm (Int.le_of_dvd (by omega) e1) (Int.le_of_dvd (by omega) e2)
 subst e3
 exact ⟨Int.eq_of_mul_eq_mul_right (by omega) h,rfl⟩
theorem BR {num den:Int} (h:den ≠ 0) (p:Int × Int):J8 num den = some p ↔ okF p ∧ p.1 * den = num * p.2:=by
 obtain ⟨h1,h2,h3⟩:=Fu (num:=num) h
 constructor
 ·intro hr
  unfold J8 at hr
  split at hr
  ·cases hr;rename_i ho;exact ⟨ho,h3⟩
  ·cases hr
 ·rintro ⟨ho,hp⟩
  have e:T1 num den = p:=by
   obtain ⟨a,b⟩:=p
   generalize T1 num den = q at *
   obtain ⟨c,d⟩:=q
   obtain ⟨o1,o2,o3,o4,o5⟩:=ho
   dsimp only at *
   have h4:c * b = a * d:=by
    have:(c * b) * den = (a * d) * den:=by grind
    exact Int.eq_of_mul_eq_mul_right h this
   obtain ⟨rfl,rfl⟩:=PM h1 o1 h2 o5 h4
   rfl
  unfold J8
  rw [e,if_pos ho]
theorem LR {num den:Int} (h:den ≠ 0):J8 num den =
  if (num.natAbs / Nat.gcd den.natAbs num.natAbs:Nat) ≤ 1152921504606846976 ∧ (den.natAbs / Nat.gcd den.natAbs num.natAbs:Nat) ≤ 1152921504606846976 then
   some ((if den < 0 then -num else num).sign * (num.natAbs / Nat.gcd den.natAbs num.natAbs:Nat),((den.natAbs / Nat.gcd den.natAbs num.natAbs:Nat):Int)) else none:=by
 obtain ⟨h1,h2,h3⟩:=Fu (num:=num) h
 have eg:Int.gcd num den = Nat.gcd den.natAbs num.natAbs:=by rw [Nat.gcd_comm];rfl
 have ed:(T1 num den).2 = ((den.natAbs / Nat.gcd den.natAbs num.natAbs:Nat):Int):=by
  unfold T1 Eb
  dsimp only
  rw [← eg,Int.natCast_ediv]
  split
  ·rw [show ((den.natAbs:Nat):Int) = -den by omega,Int.neg_ediv_of_dvd (Int.gcd_dvd_right ..)];omega
  ·rw [show ((den.natAbs:Nat):Int) = den by omega];omega
 have en:(T1 num den).1 = (if den < 0 then -num else num).sign * (num.natAbs / Nat.gcd den.natAbs num.natAbs:Nat):=by
  unfold T1 Eb
  dsimp only
  rw [← eg,Int.natCast_ediv]
  have:∀ z:Int,z.sign * ((num.natAbs:Int) / (Int.gcd num den:Int)) = (z.sign * (num.natAbs:Int)) / (Int.gcd num den:Int):=fun z =>
   (Int.mul_ediv_assoc _ (Int.dvd_natAbs.2 (Int.gcd_dvd_left ..))).symm
  rw [this]
  split
  ·rw [Int.sign_neg,show -num.sign * (num.natAbs:Int) = -num by rw [Int.neg_mul,Int.sign_mul_natAbs],Int.neg_ediv_of_dvd (Int.gcd_dvd_left ..)];omega
  ·rw [Int.sign_mul_natAbs];omega
 have hn:(T1 num den).1.natAbs = num.natAbs / Nat.gcd den.natAbs num.natAbs:=by
  rw [en,Int.natAbs_mul,Int.natAbs_natCast]
  by_cases h0:num = 0
  ·subst h0;simp
  ·have:(if den < 0 then -num else num).sign.natAbs = 1:=by
    split
    ·rw [Int.sign_neg,Int.natAbs_neg,Int.natAbs_sign_of_ne_zero h0]
    ·exact Int.natAbs_sign_of_ne_zero h0
   rw [this,Nat.one_mul]
 unfold J8
 have ho:okF (T1 num den) ↔ (num.natAbs / Nat.gcd den.natAbs num.natAbs:Nat) ≤ 1152921504606846976 ∧ (den.natAbs / Nat.gcd den.natAbs num.natAbs:Nat) ≤ 1152921504606846976:=by
  rw [← hn]
  unfold okF mF
  rw [h2]
  rw [ed] at h1 ⊢
  generalize den.natAbs / Nat.gcd den.natAbs num.natAbs = x at *
  generalize (T1 num den).1 = y at *
  omega
 by_cases hc:okF (T1 num den)
 ·rw [if_pos hc,if_pos (ho.1 hc), ← en, ← ed]
 ·rw [if_neg hc,if_neg fun h=>hc (ho.2 h)]
end Go.Proofs.YtbhegmcbpolemaaDoor

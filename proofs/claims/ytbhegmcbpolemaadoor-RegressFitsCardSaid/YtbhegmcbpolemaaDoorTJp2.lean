/- Numbers of 128 bits, halves and long division: plain. -/
import Derived.Test.YtbhegmcbpolemaaDoorTJp1
import Derived.Lib.TrailingZeros
import Derived.Lib.BitFns
set_option linter.unusedVariables false
set_option linter.unnecessarySimpa false
set_option linter.unusedSimpArgs false
namespace Go.Proofs.YtbhegmcbpolemaaDoor
open Go Go.Av
attribute [local irreducible] E4 B6 F1 E7 DQ F6 F9 St.le B5 D4
set_option maxRecDepth 100000
def C2 (x:Int):Int:=x / 18446744073709551616 % 18446744073709551616
def C1 (x:Int):Int:=x % 18446744073709551616
theorem M5 (x:Int):0 ≤ C2 x ∧ C2 x < 18446744073709551616:=by unfold C2;omega
theorem L9 (x:Int):0 ≤ C1 x ∧ C1 x < 18446744073709551616:=by unfold C1;omega
theorem Fa (x y:Int):(C1 x + C1 y) % 18446744073709551616 = C1 (x + y):=by unfold C1;omega
theorem Fb (x y:Int):(C2 x + C2 y + (C1 x + C1 y) / 18446744073709551616) % 18446744073709551616 = C2 (x + y):=by unfold C2 C1;omega
theorem Ml (x:Int):18446744073709551615 - C1 x = C1 (-x - 1):=by unfold C1;omega
theorem Mm (x:Int):18446744073709551615 - C2 x = C2 (-x - 1):=by unfold C2;omega
theorem Jg (x y:Int):(C1 x + 18446744073709551616 - C1 y) % 18446744073709551616 = C1 (x - y):=by unfold C1;omega
theorem Jh (x y:Int):(C2 x + 18446744073709551616 - C2 y - (if C1 x < C1 y then 1 else 0)) % 18446744073709551616 = C2 (x - y):=by
 unfold C2 C1
 split <;> omega
theorem EN (x y:Int):C1 x * C1 y % 18446744073709551616 = C1 (x * y):=by
 unfold C1;rw [← Int.mul_emod]
theorem EO (x y:Int):(C1 x * C1 y / 18446744073709551616 + C2 x * C1 y + C1 x * C2 y) % 18446744073709551616 = C2 (x * y):=by
 obtain ⟨X,hX⟩:∃ X,X = x / 18446744073709551616:=⟨_,rfl⟩
 obtain ⟨Y,hY⟩:∃ Y,Y = y / 18446744073709551616:=⟨_,rfl⟩
 have e1:x = 18446744073709551616 * X + C1 x:=by unfold C1;omega
 have e2:y = 18446744073709551616 * Y + C1 y:=by unfold C1;omega
 have e3:C2 x = X % 18446744073709551616:=by unfold C2;rw [hX]
 have e4:C2 y = Y % 18446744073709551616:=by unfold C2;rw [hY]
 rw [e3,e4]
 clear e3 e4
 have e5:x * y = 18446744073709551616 * (18446744073709551616 * (X * Y) + X * C1 y + C1 x * Y) + C1 x * C1 y:=by
  generalize C1 x = p at *
  generalize C1 y = q at *
  clear hX hY
  subst e1;subst e2;grind
 generalize C1 x = p at *
 generalize C1 y = q at *
 have e6:x * y / 18446744073709551616 = 18446744073709551616 * (X * Y) + X * q + p * Y + p * q / 18446744073709551616:=by rw [e5];omega
 have e7:X % 18446744073709551616 * q = X * q - 18446744073709551616 * (X / 18446744073709551616 * q):=by
  have:X % 18446744073709551616 = X - 18446744073709551616 * (X / 18446744073709551616):=by omega
  rw [this];grind
 have e8:p * (Y % 18446744073709551616) = p * Y - 18446744073709551616 * (p * (Y / 18446744073709551616)):=by
  have:Y % 18446744073709551616 = Y - 18446744073709551616 * (Y / 18446744073709551616):=by omega
  rw [this];grind
 unfold C2
 rw [e6,e7,e8]
 omega
theorem EP {x:Int} (h:-170141183460469231731687303715884105728 ≤ x ∧ x < 170141183460469231731687303715884105728):(C2 x / 9223372036854775808 = 1 ↔ x < 0) ∧ (C2 x = 0 ∧ C1 x = 0 ↔ x = 0):=by unfold C2 C1;omega
theorem HJ {a b n:Nat} (hb:b < 2 ^ n):(a * 2 ^ n) ||| b = a * 2 ^ n + b:=by
 rw [← Nat.shiftLeft_eq,Nat.shiftLeft_add_eq_or_of_lt hb]
theorem Og {a b n:Nat} (hb:b < 2 ^ n):b ||| (a * 2 ^ n) = a * 2 ^ n + b:=by rw [Nat.or_comm,HJ hb]
theorem Oh {a:Nat} (ha:a % 2 = 1) (k:Nat):Nat.Coprime (2 ^ k) a:=by
 refine Nat.Coprime.pow_left k ?_
 rw [Nat.Coprime,Nat.gcd_rec,ha];rfl
theorem CV {a:Nat} (ha:a % 2 = 1) (k b:Nat):Nat.gcd a (2 ^ k * b) = Nat.gcd a b:=by
 rw [Nat.gcd_comm a,Nat.gcd_comm a]
 exact (Oh ha k).gcd_mul_left_cancel b
theorem Oi {a b i j:Nat} (ha:a % 2 = 1) (hb:b % 2 = 1):Nat.gcd (2 ^ i * a) (2 ^ j * b) = 2 ^ min i j * Nat.gcd a (2 ^ j * b):=by
 rw [CV ha]
 rcases Nat.le_total i j with h | h
 ·rw [Nat.min_eq_left h]
  obtain ⟨d,rfl⟩:∃ d,j = i + d:=⟨j - i,by omega⟩
  rw [Nat.pow_add,Nat.mul_assoc,Nat.gcd_mul_left,CV ha]
 ·rw [Nat.min_eq_right h]
  obtain ⟨d,rfl⟩:∃ d,i = j + d:=⟨i - j,by omega⟩
  rw [Nat.pow_add,Nat.mul_assoc,Nat.gcd_mul_left,Nat.gcd_comm,CV hb,Nat.gcd_comm]
def zW (x:Nat):Nat:=if x % 18446744073709551616 = 0 then 64 + Lib.ctz 64 (x / 18446744073709551616) else Lib.ctz 64 (x % 18446744073709551616)
theorem HK {x:Nat} (h0:x ≠ 0) (h:x < 18446744073709551616):∃ m,x = 2 ^ Lib.ctz 64 x * (2 * m + 1) ∧ Lib.ctz 64 x < 64:=by
 unfold Lib.ctz
 rw [if_neg h0]
 exact Lib.ctzFrom_spec 64 x (by omega) h
theorem Ic {x:Nat} (h0:x ≠ 0) (h:x < 340282366920938463463374607431768211456):∃ m,x = 2 ^ zW x * (2 * m + 1) ∧ zW x < 128:=by
 unfold zW
 split
 ·rename_i hz
  obtain ⟨m,h1,h2⟩:=HK (x:=x / 18446744073709551616) (by omega) (by omega)
  refine ⟨m,?_,by omega⟩
  rw [Nat.pow_add,Nat.mul_assoc, ← h1]
  omega
 ·rename_i hz
  obtain ⟨m,h1,h2⟩:=HK (x:=x % 18446744073709551616) hz (by omega)
  refine ⟨m + x / 18446744073709551616 * 2 ^ (63 - Lib.ctz 64 (x % 18446744073709551616)),?_,by omega⟩
  generalize Lib.ctz 64 (x % 18446744073709551616) = k at *
  have e:2 ^ k * (2 * (m + x / 18446744073709551616 * 2 ^ (63 - k)) + 1) = 2 ^ k * (2 * m + 1) + x / 18446744073709551616 * (2 ^ k * 2 * 2 ^ (63 - k)):=by grind
  have e2:2 ^ k * 2 * 2 ^ (63 - k) = 18446744073709551616:=by
   rw [← Nat.pow_succ, ← Nat.pow_add,show k.succ + (63 - k) = 64 by omega]
  rw [e,e2, ← h1]
  omega
def lW (x:Nat):Nat:=if 18446744073709551616 ≤ x then 64 + Lib.bitLen (x / 18446744073709551616) else Lib.bitLen x
theorem bitLen_spec:∀ (f x:Nat),x < 2 ^ f → x < 2 ^ Lib.bitLenAux f x ∧ (x ≠ 0 → 2 ^ Lib.bitLenAux f x ≤ 2 * x) ∧ Lib.bitLenAux f x ≤ f
 | 0,x,h=>by simp at h;subst h;simp [Lib.bitLenAux]
 | f + 1,x,h=>by
   unfold Lib.bitLenAux
   split
   ·rename_i h0;subst h0;simp
   ·rename_i h0
    obtain ⟨h1,h2,h3⟩:=bitLen_spec f (x / 2) (by rw [Nat.pow_succ] at h;omega)
    rw [Nat.add_comm 1,Nat.pow_succ]
    refine ⟨by omega,fun _=>?_,by omega⟩
    by_cases hx:x / 2 = 0
    ·rw [hx]
     have:Lib.bitLenAux f 0 = 0:=by cases f <;> simp [Lib.bitLenAux]
     rw [this];omega
    ·have:=h2 hx;omega
theorem T0 {x:Nat} (h:x < 340282366920938463463374607431768211456):x < 2 ^ lW x ∧ (x ≠ 0 → 2 ^ lW x ≤ 2 * x) ∧ lW x ≤ 128:=by
 unfold lW
 split
 ·rename_i hx
  obtain ⟨h1,h2,h3⟩:=bitLen_spec 64 (x / 18446744073709551616) (by omega)
  rw [Nat.pow_add]
  unfold Lib.bitLen
  generalize Lib.bitLenAux 64 (x / 18446744073709551616) = k at *
  have h4:=h2 (by omega)
  refine ⟨by omega,fun _=>by omega,by omega⟩
 ·obtain ⟨h1,h2,h3⟩:=bitLen_spec 64 x (by omega)
  exact ⟨h1,h2,by unfold Lib.bitLen;omega⟩
theorem Mn {a0 b q a k:Nat} (h:a0 = q * (b * 2 ^ (k + 1)) + a) (ha:a < b * 2 ^ (k + 1)) :
  (b * 2 ^ k ≤ a → a0 = (2 * q + 1) * (b * 2 ^ k) + (a - b * 2 ^ k) ∧ a - b * 2 ^ k < b * 2 ^ k) ∧ (a < b * 2 ^ k → a0 = (2 * q) * (b * 2 ^ k) + a):=by
 rw [Nat.pow_succ] at h ha
 generalize 2 ^ k = p at *
 have e:b * (p * 2) = 2 * (b * p):=by grind
 rw [e] at h ha
 generalize b * p = c at *
 have e2:q * (2 * c) = 2 * (q * c):=by grind
 have e3:(2 * q + 1) * c = 2 * (q * c) + c:=by grind
 have e4:2 * q * c = 2 * (q * c):=by grind
 rw [e2] at h
 rw [e3,e4]
 omega
theorem Kz {a b:Nat} (hb:0 < b) (ha:a < 340282366920938463463374607431768211456) (hb2:b < 340282366920938463463374607431768211456) (h:lW b ≤ lW a):a < b * 2 ^ (lW a - lW b + 1) ∧ b * 2 ^ (lW a - lW b) ≤ 2 ^ lW a:=by
 obtain ⟨a1,_,_⟩:=T0 ha
 obtain ⟨b1,b2,_⟩:=T0 hb2
 have b3:=b2 (by omega)
 have e:lW a = lW b + (lW a - lW b):=by omega
 generalize lW a - lW b = d at *
 rw [e,Nat.pow_add] at a1
 rw [e]
 constructor
 ·refine Nat.lt_of_lt_of_le a1 ?_
  have:=Nat.mul_le_mul_right (2 ^ d) b3
  have e2:b * 2 ^ (d + 1) = 2 * b * 2 ^ d:=by rw [Nat.pow_succ];grind
  rw [e2];exact this
 ·rw [Nat.pow_add];exact Nat.mul_le_mul_right _ (by omega)
theorem Mo {a b:Nat} (ha:a < 340282366920938463463374607431768211456) (hb2:b < 340282366920938463463374607431768211456) (h:lW a < lW b):a < b:=by
 obtain ⟨a1,_,_⟩:=T0 ha
 obtain ⟨b1,b2,_⟩:=T0 hb2
 have b3:=b2 (by
  rintro rfl
  simp [lW,Lib.bitLen,Lib.bitLenAux] at h)
 have:2 ^ lW a * 2 ≤ 2 ^ lW b:=by rw [← Nat.pow_succ];exact Nat.pow_le_pow_right (by omega) h
 omega
theorem DN {a b:Nat} (hb:0 < b) (ha:a < 340282366920938463463374607431768211456) (hb2:b < 340282366920938463463374607431768211456) (h:lW b + 62 ≤ lW a):1152921504606846976 < a / b:=by
 obtain ⟨_,a2,_⟩:=T0 ha
 obtain ⟨b1,_,_⟩:=T0 hb2
 have a3:=a2 (by
  rintro rfl
  have:lW 0 = 0:=by simp [lW,Lib.bitLen,Lib.bitLenAux]
  omega)
 have h1:2 ^ lW b * 4611686018427387904 ≤ 2 ^ lW a:=by
  rw [show (4611686018427387904:Nat) = 2 ^ 62 by decide, ← Nat.pow_add]
  exact Nat.pow_le_pow_right (by omega) h
 rw [Nat.lt_div_iff_mul_lt hb]
 omega
end Go.Proofs.YtbhegmcbpolemaaDoor

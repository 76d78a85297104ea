/- The reference's division, determinants, sizes: plain. -/
import Derived.Test.YtbhegmcbpolemaaDoorTJp7
set_option linter.unusedVariables false
set_option linter.unnecessarySimpa false
set_option linter.unusedSimpArgs false
namespace Go.Proofs.YtbhegmcbpolemaaDoor
open Go Go.Av
attribute [local irreducible] E4 B6 F1 E7 DQ F6 F9 St.le B5 D4
set_option maxRecDepth 100000
theorem QI (A i:Nat):A / 2 ^ i = 2 * (A / 2 ^ (i + 1)) + A / 2 ^ i % 2:=by
 rw [Nat.pow_succ, ← Nat.div_div_eq_div_mul];omega
theorem Qt {m B b:Nat} (hB:0 < B) (h:2 * (m % B) + b < B):(2 * m + b) / B = 2 * (m / B) ∧ (2 * m + b) % B = 2 * (m % B) + b:=by
 have e:=Nat.div_add_mod m B
 have e1:2 * m + b = B * (2 * (m / B)) + (2 * (m % B) + b):=by
  have:B * (2 * (m / B)) = 2 * (B * (m / B)):=by grind
  omega
 rw [e1]
 exact ⟨by rw [Nat.mul_add_div hB,Nat.div_eq_of_lt h,Nat.add_zero],by rw [Nat.mul_add_mod,Nat.mod_eq_of_lt h]⟩
theorem Qu {m B b:Nat} (hB:0 < B) (hb:b ≤ 1) (h:¬ 2 * (m % B) + b < B):(2 * m + b) / B = 2 * (m / B) + 1 ∧ (2 * m + b) % B = 2 * (m % B) + b - B:=by
 have e:=Nat.div_add_mod m B
 have hm:=Nat.mod_lt m hB
 have e1:2 * m + b = B * (2 * (m / B) + 1) + (2 * (m % B) + b - B):=by
  have:B * (2 * (m / B) + 1) = 2 * (B * (m / B)) + B:=by grind
  omega
 have h2:2 * (m % B) + b - B < B:=by omega
 rw [e1]
 exact ⟨by rw [Nat.mul_add_div hB,Nat.div_eq_of_lt h2,Nat.add_zero],by rw [Nat.mul_add_mod,Nat.mod_eq_of_lt h2]⟩
theorem LV {A i:Nat} (h:64 ≤ i):A / 18446744073709551616 / 2 ^ (i - 64) = A / 2 ^ i:=by
 rw [Nat.div_div_eq_div_mul]
 congr 1
 have:(18446744073709551616:Nat) = 2 ^ 64:=rfl
 rw [this, ← Nat.pow_add];congr 1;omega
theorem QJ {A i:Nat} (h:i < 64):A % 18446744073709551616 / 2 ^ i % 2 = A / 2 ^ i % 2:=by
 have e:(18446744073709551616:Nat) = 2 ^ i * (2 * 2 ^ (63 - i)):=by
  have:(18446744073709551616:Nat) = 2 ^ 64:=rfl
  rw [this, ← Nat.pow_succ', ← Nat.pow_add];congr 1;omega
 rw [e,Nat.mod_mul_right_div_self,Nat.mod_mul_right_mod]
def QK (a:Nat → Nat → Int) (rows cols:List Nat) (i j:Nat):Int:=a (rows.getD i 0) (cols.getD j 0)
def AH (a:Nat → Nat → Int) (rows cols:List Nat):Int:=V1 cols.length (QK a rows cols)
def Ab (a:Nat → Nat → Int) (r:Nat) (rows cols:List Nat) (k:Nat):Int:=S2 k * a r (cols.getD k 0) * AH a rows (cols.eraseIdx k)
theorem LX (a:Nat → Nat → Int) (r:Nat) (rows cols:List Nat) (h:cols ≠ []):AH a (r :: rows) cols = E8 cols.length (Ab a r rows cols):=by
 obtain ⟨m,hm⟩:∃ m,cols.length = m + 1:=⟨cols.length - 1,by have:=List.length_pos_iff.2 h;omega⟩
 unfold AH
 rw [hm,V1]
 refine o5 fun k hk=>?_
 unfold Ab AH
 rw [List.length_eraseIdx_of_lt (by omega),hm,Nat.add_sub_cancel]
 congr 1
 refine o6 fun i j _ _=>?_
 show a (rows.getD i 0) (cols.getD (AW k j) 0) = a (rows.getD i 0) ((cols.eraseIdx k).getD j 0)
 rw [BU]
theorem NQ (a:Nat → Nat → Int) (rows:List Nat):AH a rows [] = 1:=rfl
theorem NR (a:List (List Int)):AH (L2 a) (List.range a.length) (List.range a.length) = E9 a:=by
 unfold AH E9
 rw [List.length_range]
 refine o6 fun i j hi hj=>?_
 unfold QK
 rw [List.getD_eq_getElem?_getD,List.getD_eq_getElem?_getD,List.getElem?_range hi,List.getElem?_range hj];rfl
theorem PD {α:Type} (l:List α) (k:Nat):l.take k ++ l.drop (k + 1) = l.eraseIdx k:=(List.eraseIdx_eq_take_drop_succ l k).symm
theorem Hb (a b:List (List Int)):I4 (a ++ b) = I4 a * I4 b:=by
 induction a with
 | nil=>rw [List.nil_append];show _ = 1 * _;rw [Int.one_mul]
 | cons r s ih=>rw [List.cons_append,I4,I4,ih,Int.mul_assoc]
theorem Jy {a:List (List Int)} {k:Nat} {r:List Int} (h:a[k]? = some r):I4 (a.take (k + 1)) = I4 (a.take k) * b9 r:=by
 rw [List.take_add_one,h,Option.toList_some,Hb]
 congr 1
 show b9 r * 1 = _
 rw [Int.mul_one]
theorem Hc (a:List (List Int)) (k:Nat):I4 (a.take k) ≤ I4 a:=by
 have e:I4 a = I4 (a.take k) * I4 (a.drop k):=by rw [← Hb,List.take_append_drop]
 rw [e]
 have h1:=DO (a.take k)
 have h2:=DO (a.drop k)
 have:=Int.mul_le_mul_of_nonneg_left h2 (show 0 ≤ I4 (a.take k) by omega)
 omega
end Go.Proofs.YtbhegmcbpolemaaDoor

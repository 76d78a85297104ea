/- Chapter 5: how the reference reads conditions: a text that is printed is read, and a text that is read is printed. -/
import Derived.Test.YtiphlhoclaogjabGreatDoorQBk1
set_option linter.unusedVariables false
set_option linter.unnecessarySimpa false
set_option linter.unusedSimpArgs false
namespace Go.Proofs.YtiphlhoclaogjabGreatDoor
open Go Go.Av
attribute [local irreducible] D1 B5 D5 D3 DQ D7 E0 St.le B3 B6
set_option maxRecDepth 100000
def Jr (b:UInt8):Bool:=decide (b.toNat ≠ 32 ∧ b.toNat ≠ 40 ∧ b.toNat ≠ 41)
def Em (l:List UInt8):Nat:=l.foldl (fun n b=>10 * n + (b.toNat - 48)) 0
theorem Js (l:List UInt8) (b:UInt8):Em (l ++ [b]) = 10 * Em l + (b.toNat - 48):=by
 unfold Em;rw [List.foldl_append];rfl
def Pd (z:List UInt8):Int × Bool :=
 if (L1 [45] z).1.length < 1 ∨ 15 < (L1 [45] z).1.length then (0,false)
 else if (L1 [45] z).1.all Bq = true then
  (if (L1 [45] z).1.length < z.length then (-(Em (L1 [45] z).1:Int),decide (Lib.itoa (-(Em (L1 [45] z).1:Int)) = z))
  else ((Em (L1 [45] z).1:Int),decide (Lib.itoa (Em (L1 [45] z).1) = z)))
 else (0,false)
theorem j9 (u:Nat):Em (Lib.decDigits u) = u ∧ (Lib.decDigits u).all Bq = true ∧ 1 ≤ (Lib.decDigits u).length:=by
 induction u using Nat.strongRecOn with
 | ind u ih =>
   rw [Lib.decDigits]
   by_cases h1:u < 10
   ·rw [dif_pos h1]
    have e:=Ht h1
    refine ⟨?_,?_,by simp⟩
    ·have:=Js [] (UInt8.ofNat (48 + u))
     rw [List.nil_append] at this
     rw [this,e]
     show 10 * 0 + (48 + u - 48) = u
     omega
    ·simp only [List.all_cons,List.all_nil,Bool.and_true,Bq,decide_eq_true_eq]
     omega
   ·rw [dif_neg h1]
    obtain ⟨i1,i2,i3⟩:=ih (u / 10) (by omega)
    have hd:u % 10 < 10:=by omega
    have e:=Ht hd
    refine ⟨?_,?_,by simp⟩
    ·rw [Js,i1,e];omega
    ·rw [List.all_append,i2]
     simp only [List.all_cons,List.all_nil,Bool.and_true,Bool.true_and,Bq,decide_eq_true_eq]
     omega
theorem UQ {n:Int} (h1:-100000000000000 ≤ n) (h2:n ≤ 100000000000000):Pd (Lib.itoa n) = (n,true):=by
 unfold Pd
 by_cases h:n < 0
 ·have e:Lib.itoa n = [45] ++ Lib.decDigits n.natAbs:=by unfold Lib.itoa;rw [if_pos h];rfl
  obtain ⟨d1,d2,d3⟩:=j9 n.natAbs
  have d4:=MO 14 n.natAbs (by omega)
  rw [e,OL [45]]
  dsimp only
  rw [if_neg (by omega),if_pos d2,if_pos (by rw [List.length_append,List.length_singleton];omega),d1,show -(n.natAbs:Int) = n by omega, ← e,decide_eq_true rfl]
 ·have e:Lib.itoa n = Lib.decDigits n.toNat:=by unfold Lib.itoa;rw [if_neg h]
  obtain ⟨d1,d2,d3⟩:=j9 n.toNat
  have d4:=MO 14 n.toNat (by omega)
  have ec:L1 [45] (Lib.itoa n) = (Lib.itoa n,false):=by
   rw [e]
   cases hc:Lib.decDigits n.toNat with
   | nil=>rw [hc] at d3;simp at d3
   | cons c r =>
     have hh:=GT d2 hc
     exact UN (by intro e;rw [← e] at hh;exact absurd hh.1 (by decide))
  rw [ec]
  dsimp only
  rw [e,if_neg (by omega),if_pos d2,if_neg (by omega),d1,show ((n.toNat:Nat):Int) = n by omega,e,decide_eq_true rfl]
def Vk (u:List UInt8):Prop:=∀ b r,u = b :: r → Jr b = false
theorem Vl {b:UInt8} (h:CO b = true):Jr b = true:=by
 unfold CO at h
 unfold Jr
 have:=of_decide_eq_true h
 exact decide_eq_true (by omega)
theorem Vk.stops {u:List UInt8} (h:Vk u):Vi u:=fun b r e=>by
 have h1:=h b r e
 cases hw:CO b
 ·rfl
 ·rw [Vl hw] at h1;cases h1
theorem MQ {l:List UInt8} (h:l.all Bq = true):l.all Jr = true:=by
 rw [List.all_eq_true] at h ⊢
 exact fun b hb=>Vl (MN (h b hb))
theorem YX (n:Int):(Lib.itoa n).all Jr = true:=by
 unfold Lib.itoa
 split
 ·rw [List.all_cons,MQ (j9 _).2.1];rfl
 ·exact MQ (j9 _).2.1
end Go.Proofs.YtiphlhoclaogjabGreatDoor
namespace Go.Proofs.YtiphlhoclaogjabGreatDoor
open Go Go.Av
attribute [local irreducible] D1 B5 D5 D3 DQ D7 E0 St.le B3 B6
set_option maxRecDepth 100000
set_option maxHeartbeats 2000000 in
theorem GU (t w:List UInt8) (ht:t.length ≤ 9223372036854775807) (hw:w.length ≤ 9223372036854775807):B3 Tryz.prog 99 [.str t, .str w] (.str (L1 w t).1):=by
 have hp:=Hs t w ht hw
 have hq:=MM (w:=w) (t:=t)
 unfold L1
 refine F3 Tryz.func99 13 fun hrd E h0=>?_
 clear hrd
 by_cases h:w.isPrefixOf t = true
 ·rw [if_pos h]
  rw [h] at hp
  have hq:=hq.1 h
  repeat' ((first | refine A9 hp ?_ |refine A1 ?_|refine S1 ?_|refine Z1 ?_|refine Z2 ?_|(refine And.intro ?_ ?_<;>intro h<;>try first|(exfalso;omega)|exact absurd rfl h)|refine Z3 ?_|refine Z4 ?_|intro el hel hbB|intro el hel|intro ex|refine Z5 ?_|(refine A6 ?_ ?_;exact ⟨by kernel_rfl,by decide⟩)|refine A5 ?_ ?_|exact A4|refine A3 ?_ ?_|exact A2|(refine A0 ?_ ?_ ?_;kernel_rfl;kernel_rfl)) <;> (try (conv=>whnf)))
  all_goals first
   | exact B2 rfl (congrArg AV.str (by simp))
 ·have h2:w.isPrefixOf t = false:=eq_false_of_ne_true h
  rw [if_neg h]
  rw [h2] at hp
  repeat' ((first | refine A9 hp ?_ |refine A1 ?_|refine S1 ?_|refine Z1 ?_|refine Z2 ?_|(refine And.intro ?_ ?_<;>intro h<;>try first|(exfalso;omega)|exact absurd rfl h)|refine Z3 ?_|refine Z4 ?_|intro el hel hbB|intro el hel|intro ex|refine Z5 ?_|(refine A6 ?_ ?_;exact ⟨by kernel_rfl,by decide⟩)|refine A5 ?_ ?_|exact A4|refine A3 ?_ ?_|exact A2|(refine A0 ?_ ?_ ?_;kernel_rfl;kernel_rfl)) <;> (try (conv=>whnf)))
  all_goals first
   | exact B2 rfl rfl
set_option maxHeartbeats 2000000 in
theorem x9 (t w:List UInt8) (ht:t.length ≤ 9223372036854775807) (hw:w.length ≤ 9223372036854775807):B3 Tryz.prog 71 [.str t, .str w] (.str (L1 w t).1):=by
 have hp:=GU t w ht hw
 refine F3 Tryz.func71 8 fun hrd E h0=>?_
 clear hrd
 repeat' ((first | refine A9 hp ?_ |refine A1 ?_|refine S1 ?_|refine Z1 ?_|refine Z2 ?_|(refine And.intro ?_ ?_<;>intro h<;>try first|(exfalso;omega)|exact absurd rfl h)|refine Z3 ?_|refine Z4 ?_|intro el hel hbB|intro el hel|intro ex|refine Z5 ?_|(refine A6 ?_ ?_;exact ⟨by kernel_rfl,by decide⟩)|refine A5 ?_ ?_|exact A4|refine A3 ?_ ?_|exact A2|(refine A0 ?_ ?_ ?_;kernel_rfl;kernel_rfl)) <;> (try (conv=>whnf)))
 all_goals exact B2 rfl rfl
def YY (t:List UInt8) (n:Nat):Prop:=n ≤ t.length ∧ ∀ i b,i < n → t[i]? = some b → Jr b = true
theorem YY.all {t:List UInt8} {n:Nat} (h:YY t n) (hn:¬ (n:Int) < t.length):t.takeWhile Jr = t.take n :=
 (GS (fun i c hi hc=>h.2 i c hi hc) h.1 (fun c hc=>by have:=(List.getElem?_eq_some_iff.1 hc).1;omega)).1
end Go.Proofs.YtiphlhoclaogjabGreatDoor

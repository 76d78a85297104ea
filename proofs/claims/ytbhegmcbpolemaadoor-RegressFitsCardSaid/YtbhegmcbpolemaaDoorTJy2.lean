/- The reference's division, greatest divisor, and fractions in lowest terms. -/
import Derived.Test.YtbhegmcbpolemaaDoorTJy1
import Derived.Test.YtbhegmcbpolemaaDoorTJx2
set_option linter.unusedVariables false
set_option linter.unnecessarySimpa false
set_option linter.unusedSimpArgs false
namespace Go.Proofs.YtbhegmcbpolemaaDoor
open Go Go.Av
attribute [local irreducible] E4 B6 F1 E7 DQ F6 F9 St.le B5 D4
set_option maxRecDepth 100000
theorem LY (a:Nat) (ha:a < 18446744073709551616):IntKind.u64.wrap ((BitVec.ofInt IntKind.u64.bits (a:Int) &&& BitVec.ofInt IntKind.u64.bits 1).toNat:Int) = ((a % 2:Nat):Int):=by
 have h:=bits_and_u64_nat a 1 ha (by omega)
 have e:a &&& 1 = a % 2:=Nat.and_one_is_mod a
 rw [e] at h
 exact h
theorem Qv (a b:Nat) (ha:a < 9223372036854775808) (hb:b ≤ 1):IntKind.u64.wrap ((BitVec.ofInt IntKind.u64.bits ((2 * a:Nat):Int) ||| BitVec.ofInt IntKind.u64.bits (b:Int)).toNat:Int) = ((2 * a + b:Nat):Int):=by
 rw [Jm _ _ (by omega) (by omega)]
 have:(a * 2 ^ 1) ||| b = a * 2 ^ 1 + b:=HJ (by omega)
 rw [show 2 * a = a * 2 ^ 1 by omega,this]
set_option maxHeartbeats 8000000 in
theorem Cy (X:Nat) (hX:X < 170141183460469231731687303715884105728):B5 Tryd.prog 82 [D6 X] (D6 ((X * 2 ^ 1:Nat):Int)):=by
 unfold D6
 rw [c8,c9,c8 (X * 2 ^ 1),c9 (X * 2 ^ 1)]
 rw [Nu (by decide:1 < 64), ← Jm _ _ (Nat.mod_lt _ (by decide)) (Nat.lt_of_le_of_lt (Nat.div_le_self _ _) (Nat.mod_lt _ (by decide)))]
 rw [← CW _ 1 1 rfl (by omega), ← AX _ (64 - 1) 63 (by omega) (by omega)]
 rw [show X * 2 ^ 1 % 18446744073709551616 = X % 18446744073709551616 * 2 ^ 1 % 18446744073709551616 by rw [Nat.mod_mul_mod], ← CW _ 1 1 rfl (by omega)]
 rw [Nat.mod_eq_of_lt (a:=X / 18446744073709551616) (b:=18446744073709551616) (by omega)]
 refine D1 Tryd.func82 14 (fun hrd E h0=>?_) (hcells:=by intro t T h;cases h;exact ⟨2,inferInstance,fun l h=>by cases h;rfl⟩)
 clear hrd
 repeat' ((first|refine A5 ?_|refine S1 ?_|refine Z1 ?_|refine Z2 ?_|(refine And.intro ?_ ?_<;>intro h<;>try first|(exfalso;omega)|exact absurd rfl h)|refine Z3 ?_|refine Z4 ?_|intro el hel hbB|intro el hel|intro ex|refine Z5 ?_|(refine B0 ?_ ?_;exact ⟨by kernel_rfl,by decide⟩)|refine A9 ?_ ?_|exact A8|refine A7 ?_ ?_|exact A6|(refine A3 ?_ ?_ ?_;kernel_rfl;kernel_rfl)) <;> (try (conv=>whnf)))
 all_goals first
  | (exfalso;omega)
  | exact F4 rfl rfl rfl
abbrev Nz (h n:Int):Int:=h.fdiv (2 ^ min (IntKind.u64.wrap n).toNat IntKind.u64.bits)
abbrev QN (h:Int):Int:=IntKind.u64.wrap ((BitVec.ofInt IntKind.u64.bits h &&& BitVec.ofInt IntKind.u64.bits 1).toNat:Int)
abbrev RA (h b:Int):Int:=IntKind.u64.wrap ((BitVec.ofInt IntKind.u64.bits h ||| BitVec.ofInt IntKind.u64.bits b).toNat:Int)
theorem Ir (a n:Nat) (z:Int) (hz:z = n) (hn:n < 64):Nz (a:Int) z = ((a / 2 ^ n:Nat):Int):=by
 subst hz
 have e:IntKind.u64.wrap ((n:Nat):Int) = n:=BC n (by omega)
 unfold Nz
 rw [e]
 exact AX a n n rfl (by omega)
theorem PF (A i:Nat) (hA:A < 340282366920938463463374607431768211456) (h:64 ≤ i ∧ i < 128):QN (Nz (C2 A) ((i:Int).tmod 64)) = ((A / 2 ^ i % 2:Nat):Int):=by
 have e1:(i:Int).tmod 64 = ((i - 64:Nat):Int):=by rw [Int.tmod_eq_emod_of_nonneg (by omega)];omega
 rw [c8,Ir _ (i - 64) _ e1 (by omega),Nat.mod_eq_of_lt (a:=A / 18446744073709551616) (by omega),LV h.1]
 refine LY _ ?_
 rw [← LV h.1]
 exact Nat.lt_of_le_of_lt (Nat.div_le_self _ _) (by omega)
theorem PG (A i:Nat) (h:i < 64):QN (Nz (C1 A) (i:Int)) = ((A / 2 ^ i % 2:Nat):Int):=by
 rw [c9,Ir _ i _ rfl h]
 have:=LY (A % 18446744073709551616 / 2 ^ i) (Nat.lt_of_le_of_lt (Nat.div_le_self _ _) (Nat.mod_lt _ (by decide)))
 rw [QJ h] at this
 exact this
theorem LZ (R b:Nat) (hR:R < 170141183460469231731687303715884105728) (hb:b ≤ 1):D6 ((2 * R + b:Nat):Int) = .agg [uA (C2 ((R * 2 ^ 1:Nat):Int)),uA (RA (C1 ((R * 2 ^ 1:Nat):Int)) b)]:=by
 have e1:C2 ((2 * R + b:Nat):Int) = C2 ((R * 2 ^ 1:Nat):Int):=by unfold C2;omega
 have e2:C1 ((R * 2 ^ 1:Nat):Int) = ((2 * (R % 9223372036854775808):Nat):Int):=by unfold C1;omega
 have e3:C1 ((2 * R + b:Nat):Int) = ((2 * (R % 9223372036854775808) + b:Nat):Int):=by unfold C1;omega
 unfold D6
 rw [e1,e3,e2]
 unfold RA
 rw [Qv _ _ (Nat.mod_lt _ (by decide)) hb]
theorem NS (A B i:Nat) (hB:0 < B):(2 * (A / 2 ^ (i + 1) % B) + A / 2 ^ i % 2 < B → A / 2 ^ i / B = A / 2 ^ (i + 1) / B * 2 ^ 1 ∧ A / 2 ^ i % B = 2 * (A / 2 ^ (i + 1) % B) + A / 2 ^ i % 2) ∧
  (¬ 2 * (A / 2 ^ (i + 1) % B) + A / 2 ^ i % 2 < B → A / 2 ^ i / B = 2 * (A / 2 ^ (i + 1) / B) + 1 ∧ A / 2 ^ i % B = 2 * (A / 2 ^ (i + 1) % B) + A / 2 ^ i % 2 - B):=by
 have e:=QI A i
 have hb:A / 2 ^ i % 2 ≤ 1:=by omega
 generalize A / 2 ^ i % 2 = b at *
 constructor
 ·intro h
  obtain ⟨h1,h2⟩:=Qt hB h
  rw [e]
  exact ⟨by rw [h1];omega,h2⟩
 ·intro h
  obtain ⟨h1,h2⟩:=Qu hB hb h
  rw [e]
  exact ⟨h1,h2⟩
set_option maxHeartbeats 16000000 in
theorem o9 (A B:Nat) (hA:A < 170141183460469231731687303715884105728) (hB0:0 < B) (hB:B < 170141183460469231731687303715884105728):B5 Tryd.prog 73 [D6 A,D6 B] (.tup [D6 ((A / B:Nat):Int),D6 ((A % B:Nat):Int)]):=by
 have z0:A / 2 ^ 128 = 0:=Nat.div_eq_of_lt (by omega)
 have z1:D3 ((A / 2 ^ 128 / B:Nat):Int) = [uA 0,uA 0]:=by rw [z0,Nat.zero_div];rfl
 have z2:D3 ((A / 2 ^ 128 % B:Nat):Int) = [uA 0,uA 0]:=by rw [z0,Nat.zero_mod];rfl
 refine D1 Tryd.func73 51 fun hrd E h0=>?_
 clear hrd
 repeat' ((first|refine A5 ?_|refine S1 ?_|refine Z1 ?_|refine Z2 ?_|(refine And.intro ?_ ?_<;>intro h<;>try first|(exfalso;omega)|exact absurd rfl h)|refine Z3 ?_|refine Z4 ?_|intro el hel hbB|intro el hel|intro ex|refine Z5 ?_|(refine B0 ?_ ?_;exact ⟨by kernel_rfl,by decide⟩)|refine A9 ?_ ?_|exact A8|refine A7 ?_ ?_|exact A6|(refine A3 ?_ ?_ ?_;kernel_rfl;kernel_rfl)) <;> (try (conv=>whnf)))
 refine D7 (ι:=Nat) (fun j=>⟨[(2, .iptr (D3 A)),(3, .iptr (D3 B)),(4, .ref 2 0),(5, .ref 3 0),(6, .ref 4 0),(7, .ref 5 0),(8, .i ((j:Int) - 1))],6,[(2,some (.box [uA 0,uA 0])),(3,some (.box [uA 0,uA 0])),(4,some (.box (D3 ((A / 2 ^ j / B:Nat):Int)))),(5,some (.box (D3 ((A / 2 ^ j % B:Nat):Int))))]⟩) (fun j=>j ≤ 128) (fun j=>j) 128 (Nat.le_refl _)
  (B4 h0 rfl ⟨rfl,rfl,rfl,rfl,rfl,rfl,rfl,trivial⟩ ⟨rfl,rfl,congrArg D9.box z1,congrArg D9.box z2,trivial⟩ rfl rfl rfl) (fun j hj=>?_)
 rcases Nat.eq_zero_or_pos j with rfl | hj0
 ·rw [Nat.pow_zero,Nat.div_one]
  repeat' ((first | (refine F5 (id:=14) ⟨[(4, .ref 2 0),(5, .ref 3 0)],6,[(2,some (.box (D3 ((A / B:Nat):Int)))),(3,some (.box (D3 ((A % B:Nat):Int))))]⟩ ?_ ?_) |refine A5 ?_|refine S1 ?_|refine Z1 ?_|refine Z2 ?_|(refine And.intro ?_ ?_<;>intro h<;>try first|(exfalso;omega)|exact absurd rfl h)|refine Z3 ?_|refine Z4 ?_|intro el hel hbB|intro el hel|intro ex|refine Z5 ?_|(refine B0 ?_ ?_;exact ⟨by kernel_rfl,by decide⟩)|refine A9 ?_ ?_|exact A8|refine A7 ?_ ?_|exact A6|(refine A3 ?_ ?_ ?_;kernel_rfl;kernel_rfl)) <;> (try (conv=>whnf)))
  all_goals first
   | (exfalso;omega)
   | exact B4 h0 rfl ⟨rfl,rfl,trivial⟩ ⟨rfl,rfl,trivial⟩ rfl rfl rfl
   | exact QM rfl rfl rfl (.refl _) rfl rfl rfl (.refl _) rfl
 obtain ⟨i,rfl⟩:∃ i,j = i + 1:=⟨j - 1,by omega⟩
 have ei:(((i + 1:Nat):Int)) - 1 = i:=by omega
 rw [ei]
 have q1:A / 2 ^ (i + 1) / B ≤ A:=Nat.le_trans (Nat.div_le_self _ _) (Nat.div_le_self _ _)
 have q2:A / 2 ^ (i + 1) % B < B:=Nat.mod_lt _ hB0
 have q3:A / 2 ^ i / B ≤ A:=Nat.le_trans (Nat.div_le_self _ _) (Nat.div_le_self _ _)
 have hb:A / 2 ^ i % 2 ≤ 1:=by omega
 obtain ⟨g1,g2⟩:=NS A B i hB0
 have h64:=PG A i
 have h65:=PF A i (by omega)
 generalize A / 2 ^ (i + 1) / B = Q at *
 generalize A / 2 ^ (i + 1) % B = R at *
 generalize hQ2:A / 2 ^ i / B = Q2 at *
 generalize hR2:A / 2 ^ i % B = R2 at *
 generalize A / 2 ^ i % 2 = b at *
 have c1:=Cy R (by omega)
 have c2:=Cy Q (by omega)
 have c3:=k8 (2 * R + b) B (by omega) (by omega)
 have c4:=W1 ((2 * R + b:Nat):Int) B
 have ew:=LZ R b (by omega) hb
 have ew1:=LZ Q 1 (by omega) (by decide)
 rw [ew] at c3 c4
 have e8:((i:Nat):Int) - 1 = (i:Int) - 1:=rfl
 by_cases hi:i < 64
 ·have hbr:=h64 hi
  rw [← hbr] at c3 c4 ew
  clear h64 h65 hbr
  by_cases hlt:2 * R + b < B
  ·rw [decide_eq_true hlt] at c3
   obtain ⟨g3,g4⟩:=g1 hlt
   rw [← g4] at ew
   rw [← g3] at c2
   have ew:D3 ((R2:Nat):Int) = _:=AV.agg.inj ew
   clear c4 g1 g2
   repeat' ((first | refine A4 c1 ?_ | refine A4 c2 ?_ | refine A4 c3 ?_ |refine A5 ?_|refine S1 ?_|refine Z1 ?_|refine Z2 ?_|(refine And.intro ?_ ?_<;>intro h<;>try first|(exfalso;omega)|exact absurd rfl h)|refine Z3 ?_|refine Z4 ?_|intro el hel hbB|intro el hel|intro ex|refine Z5 ?_|(refine B0 ?_ ?_;exact ⟨by kernel_rfl,by decide⟩)|refine A9 ?_ ?_|exact A8|refine A7 ?_ ?_|exact A6|(refine A3 ?_ ?_ ?_;kernel_rfl;kernel_rfl)) <;> (try (conv=>whnf)))
   all_goals first
    | (exfalso;omega)
    | (subst hQ2;subst hR2;exact ⟨i,by omega,by omega,B4 h0 rfl ⟨rfl,rfl,rfl,rfl,rfl,rfl,rfl,trivial⟩ ⟨rfl,rfl,rfl,congrArg D9.box ew,trivial⟩ rfl rfl rfl⟩)
  ·rw [decide_eq_false hlt] at c3
   obtain ⟨g3,g4⟩:=g2 hlt
   have e4:((2 * R + b:Nat):Int) - B = (R2:Nat):=by omega
   rw [e4] at c4
   rw [← g3] at ew1
   have ew1:D3 ((Q2:Nat):Int) = _:=AV.agg.inj ew1
   clear g1 g2
   repeat' ((first | refine A4 c1 ?_ | refine A4 c2 ?_ | refine A4 c3 ?_ | refine A4 c4 ?_ |refine A5 ?_|refine S1 ?_|refine Z1 ?_|refine Z2 ?_|(refine And.intro ?_ ?_<;>intro h<;>try first|(exfalso;omega)|exact absurd rfl h)|refine Z3 ?_|refine Z4 ?_|intro el hel hbB|intro el hel|intro ex|refine Z5 ?_|(refine B0 ?_ ?_;exact ⟨by kernel_rfl,by decide⟩)|refine A9 ?_ ?_|exact A8|refine A7 ?_ ?_|exact A6|(refine A3 ?_ ?_ ?_;kernel_rfl;kernel_rfl)) <;> (try (conv=>whnf)))
   all_goals first
    | (exfalso;omega)
    | (subst hQ2;subst hR2;exact ⟨i,by omega,by omega,B4 h0 rfl ⟨rfl,rfl,rfl,rfl,rfl,rfl,rfl,trivial⟩ ⟨rfl,rfl,congrArg D9.box ew1,rfl,trivial⟩ rfl rfl rfl⟩)
 ·have hbr:=h65 (by omega)
  rw [← hbr] at c3 c4 ew
  clear h64 h65 hbr
  by_cases hlt:2 * R + b < B
  ·rw [decide_eq_true hlt] at c3
   obtain ⟨g3,g4⟩:=g1 hlt
   rw [← g4] at ew
   rw [← g3] at c2
   have ew:D3 ((R2:Nat):Int) = _:=AV.agg.inj ew
   clear c4 g1 g2
   repeat' ((first | refine A4 c1 ?_ | refine A4 c2 ?_ | refine A4 c3 ?_ |refine A5 ?_|refine S1 ?_|refine Z1 ?_|refine Z2 ?_|(refine And.intro ?_ ?_<;>intro h<;>try first|(exfalso;omega)|exact absurd rfl h)|refine Z3 ?_|refine Z4 ?_|intro el hel hbB|intro el hel|intro ex|refine Z5 ?_|(refine B0 ?_ ?_;exact ⟨by kernel_rfl,by decide⟩)|refine A9 ?_ ?_|exact A8|refine A7 ?_ ?_|exact A6|(refine A3 ?_ ?_ ?_;kernel_rfl;kernel_rfl)) <;> (try (conv=>whnf)))
   all_goals first
    | (exfalso;omega)
    | (subst hQ2;subst hR2;exact ⟨i,by omega,by omega,B4 h0 rfl ⟨rfl,rfl,rfl,rfl,rfl,rfl,rfl,trivial⟩ ⟨rfl,rfl,rfl,congrArg D9.box ew,trivial⟩ rfl rfl rfl⟩)
  ·rw [decide_eq_false hlt] at c3
   obtain ⟨g3,g4⟩:=g2 hlt
   have e4:((2 * R + b:Nat):Int) - B = (R2:Nat):=by omega
   rw [e4] at c4
   rw [← g3] at ew1
   have ew1:D3 ((Q2:Nat):Int) = _:=AV.agg.inj ew1
   clear g1 g2
   repeat' ((first | refine A4 c1 ?_ | refine A4 c2 ?_ | refine A4 c3 ?_ | refine A4 c4 ?_ |refine A5 ?_|refine S1 ?_|refine Z1 ?_|refine Z2 ?_|(refine And.intro ?_ ?_<;>intro h<;>try first|(exfalso;omega)|exact absurd rfl h)|refine Z3 ?_|refine Z4 ?_|intro el hel hbB|intro el hel|intro ex|refine Z5 ?_|(refine B0 ?_ ?_;exact ⟨by kernel_rfl,by decide⟩)|refine A9 ?_ ?_|exact A8|refine A7 ?_ ?_|exact A6|(refine A3 ?_ ?_ ?_;kernel_rfl;kernel_rfl)) <;> (try (conv=>whnf)))
   all_goals first
    | (exfalso;omega)
    | (subst hQ2;subst hR2;exact ⟨i,by omega,by omega,B4 h0 rfl ⟨rfl,rfl,rfl,rfl,rfl,rfl,rfl,trivial⟩ ⟨rfl,rfl,congrArg D9.box ew1,rfl,trivial⟩ rfl rfl rfl⟩)
end Go.Proofs.YtbhegmcbpolemaaDoor

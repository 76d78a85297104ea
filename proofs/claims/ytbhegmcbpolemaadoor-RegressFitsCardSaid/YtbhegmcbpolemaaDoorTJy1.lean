/- The reference's numbers of 128 bits. -/
import Derived.Test.YtbhegmcbpolemaaDoorTJr2
import Derived.Test.YtbhegmcbpolemaaDoorTJy0
set_option linter.unusedVariables false
set_option linter.unnecessarySimpa false
set_option linter.unusedSimpArgs false
namespace Go.Proofs.YtbhegmcbpolemaaDoor
open Go Go.Av
attribute [local irreducible] E4 B6 F1 E7 DQ F6 F9 St.le B5 D4
set_option maxRecDepth 100000
set_option maxHeartbeats 4000000 in
theorem U9 (n:Int) (h0:-9223372036854775808 ≤ n) (h1:n ≤ 9223372036854775807):B5 Tryd.prog 55 [.i n] (D6 n):=by
 have e2:IntKind.u64.wrap n = C1 n:=HM n
 by_cases hn:n < 0
 ·have e1:C2 n = 18446744073709551615:=by unfold C2;omega
  unfold D6
  rw [e1, ← e2]
  refine D1 Tryd.func55 11 (fun hrd E h0=>?_) (hcells:=by intro t T h;cases h;exact ⟨2,inferInstance,fun l h=>by cases h;rfl⟩)
  clear hrd
  repeat' ((first|refine A5 ?_|refine S1 ?_|refine Z1 ?_|refine Z2 ?_|(refine And.intro ?_ ?_<;>intro h<;>try first|(exfalso;omega)|exact absurd rfl h)|refine Z3 ?_|refine Z4 ?_|intro el hel hbB|intro el hel|intro ex|refine Z5 ?_|(refine B0 ?_ ?_;exact ⟨by kernel_rfl,by decide⟩)|refine A9 ?_ ?_|exact A8|refine A7 ?_ ?_|exact A6|(refine A3 ?_ ?_ ?_;kernel_rfl;kernel_rfl)) <;> (try (conv=>whnf)))
  all_goals first
   | (exfalso;omega)
   | exact F4 rfl rfl rfl
 ·have e1:C2 n = 0:=by unfold C2;omega
  unfold D6
  rw [e1, ← e2]
  refine D1 Tryd.func55 11 (fun hrd E h0=>?_) (hcells:=by intro t T h;cases h;exact ⟨2,inferInstance,fun l h=>by cases h;rfl⟩)
  clear hrd
  repeat' ((first|refine A5 ?_|refine S1 ?_|refine Z1 ?_|refine Z2 ?_|(refine And.intro ?_ ?_<;>intro h<;>try first|(exfalso;omega)|exact absurd rfl h)|refine Z3 ?_|refine Z4 ?_|intro el hel hbB|intro el hel|intro ex|refine Z5 ?_|(refine B0 ?_ ?_;exact ⟨by kernel_rfl,by decide⟩)|refine A9 ?_ ?_|exact A8|refine A7 ?_ ?_|exact A6|(refine A3 ?_ ?_ ?_;kernel_rfl;kernel_rfl)) <;> (try (conv=>whnf)))
  all_goals first
   | (exfalso;omega)
   | exact F4 rfl rfl rfl
set_option maxHeartbeats 4000000 in
theorem EY (x y:Int):B5 Tryd.prog 80 [D6 x,D6 y] (D6 (x + y)):=by
 have b1:=M5 x;have b2:=L9 x;have b3:=M5 y;have b4:=L9 y
 have a1:=Y4 (C1 x) (C1 y) 0 b2.1 b4.1 (by omega) (by omega)
 have a2:=Y4 (C2 x) (C2 y) ((C1 x + C1 y + 0) / 18446744073709551616) b1.1 b3.1 (by omega) (by omega)
 have e1:=Fa x y
 have e2:=Fb x y
 unfold D6
 rw [← e1, ← e2]
 generalize C2 x = p at *
 generalize C1 x = q at *
 generalize C2 y = r at *
 generalize C1 y = s at *
 refine D1 Tryd.func80 29 (fun hrd E h0=>?_) (hcells:=by intro t T h;cases h;exact ⟨2,inferInstance,fun l h=>by cases h;rfl⟩)
 clear hrd
 repeat' ((first | refine a8 a1 ?_ | refine a8 a2 ?_ |refine A5 ?_|refine S1 ?_|refine Z1 ?_|refine Z2 ?_|(refine And.intro ?_ ?_<;>intro h<;>try first|(exfalso;omega)|exact absurd rfl h)|refine Z3 ?_|refine Z4 ?_|intro el hel hbB|intro el hel|intro ex|refine Z5 ?_|(refine B0 ?_ ?_;exact ⟨by kernel_rfl,by decide⟩)|refine A9 ?_ ?_|exact A8|refine A7 ?_ ?_|exact A6|(refine A3 ?_ ?_ ?_;kernel_rfl;kernel_rfl)) <;> (try (conv=>whnf)))
 all_goals first
  | exact F4 rfl rfl (by rw [Int.add_zero];rfl)
set_option maxHeartbeats 4000000 in
theorem W1 (x y:Int):B5 Tryd.prog 70 [D6 x,D6 y] (D6 (x - y)):=by
 have b1:=M5 x;have b2:=L9 x;have b3:=M5 y;have b4:=L9 y
 have a1:=EQ (C1 x) (C1 y) 0 b2.1 b4 (.inl rfl)
 have a2:=EQ (C2 x) (C2 y) (if C1 x < C1 y + 0 then 1 else 0) b1.1 b3 (by split;exact .inr rfl;exact .inl rfl)
 have e1:=Jg x y
 have e2:=Jh x y
 unfold D6
 rw [← e1, ← e2]
 generalize C2 x = p at *
 generalize C1 x = q at *
 generalize C2 y = r at *
 generalize C1 y = s at *
 refine D1 Tryd.func70 29 (fun hrd E h0=>?_) (hcells:=by intro t T h;cases h;exact ⟨2,inferInstance,fun l h=>by cases h;rfl⟩)
 clear hrd
 repeat' ((first | refine a8 a1 ?_ | refine a8 a2 ?_ |refine A5 ?_|refine S1 ?_|refine Z1 ?_|refine Z2 ?_|(refine And.intro ?_ ?_<;>intro h<;>try first|(exfalso;omega)|exact absurd rfl h)|refine Z3 ?_|refine Z4 ?_|intro el hel hbB|intro el hel|intro ex|refine Z5 ?_|(refine B0 ?_ ?_;exact ⟨by kernel_rfl,by decide⟩)|refine A9 ?_ ?_|exact A8|refine A7 ?_ ?_|exact A6|(refine A3 ?_ ?_ ?_;kernel_rfl;kernel_rfl)) <;> (try (conv=>whnf)))
 all_goals first
  | exact F4 rfl rfl (by rw [Int.add_zero,Int.sub_zero];rfl)
set_option maxHeartbeats 4000000 in
theorem Cw (x y:Int):B5 Tryd.prog 79 [D6 x,D6 y] (D6 (x * y)):=by
 have b1:=M5 x;have b2:=L9 x;have b3:=M5 y;have b4:=L9 y
 have h1:=o8 (C1 x) (C1 y) b2 b4
 have e1:=EN x y
 have e2:=EO x y
 unfold D6
 rw [← e1, ← e2]
 generalize C2 x = p at *
 generalize C1 x = q at *
 generalize C2 y = r at *
 generalize C1 y = s at *
 refine D1 Tryd.func79 30 (fun hrd E h0=>?_) (hcells:=by intro t T h;cases h;exact ⟨2,inferInstance,fun l h=>by cases h;rfl⟩)
 clear hrd
 repeat' ((first | refine A4 h1 ?_ |refine A5 ?_|refine S1 ?_|refine Z1 ?_|refine Z2 ?_|(refine And.intro ?_ ?_<;>intro h<;>try first|(exfalso;omega)|exact absurd rfl h)|refine Z3 ?_|refine Z4 ?_|intro el hel hbB|intro el hel|intro ex|refine Z5 ?_|(refine B0 ?_ ?_;exact ⟨by kernel_rfl,by decide⟩)|refine A9 ?_ ?_|exact A8|refine A7 ?_ ?_|exact A6|(refine A3 ?_ ?_ ?_;kernel_rfl;kernel_rfl)) <;> (try (conv=>whnf)))
 all_goals first
  | (refine F4 rfl rfl ?_;simp only [HM];exact congrArg (fun z=>AV.agg [uA z,uA (q * s % 18446744073709551616)]) (by omega))
set_option maxHeartbeats 4000000 in
theorem CJ (x:Int) (h:-170141183460469231731687303715884105728 ≤ x ∧ x < 170141183460469231731687303715884105728):B5 Tryd.prog 69 [D6 x] (.b (decide (x < 0))):=by
 have b1:=M5 x;have b2:=L9 x
 obtain ⟨h1,h2⟩:=EP h
 have e3:(C2 x).fdiv (2 ^ 63) = C2 x / 9223372036854775808:=by rw [Int.fdiv_eq_ediv_of_nonneg _ (by decide)];rfl
 have e:decide (x < 0) = decide (C2 x / 9223372036854775808 = 1):=decide_eq_decide.2 h1.symm
 rw [e]
 unfold D6
 rw [← e3]
 generalize C2 x = p at *
 generalize C1 x = q at *
 clear h1 h2 h e e3
 refine D1 Tryd.func69 7 fun hrd E h0=>?_
 clear hrd
 repeat' ((first|refine A5 ?_|refine S1 ?_|refine Z1 ?_|refine Z2 ?_|(refine And.intro ?_ ?_<;>intro h<;>try first|(exfalso;omega)|exact absurd rfl h)|refine Z3 ?_|refine Z4 ?_|intro el hel hbB|intro el hel|intro ex|refine Z5 ?_|(refine B0 ?_ ?_;exact ⟨by kernel_rfl,by decide⟩)|refine A9 ?_ ?_|exact A8|refine A7 ?_ ?_|exact A6|(refine A3 ?_ ?_ ?_;kernel_rfl;kernel_rfl)) <;> (try (conv=>whnf)))
 all_goals first
  | exact B9 rfl rfl
set_option maxHeartbeats 4000000 in
theorem BN (x:Int) (h:-170141183460469231731687303715884105728 ≤ x ∧ x < 170141183460469231731687303715884105728):B5 Tryd.prog 53 [D6 x] (.b (decide (x = 0))):=by
 have b1:=M5 x;have b2:=L9 x
 obtain ⟨h1,h2⟩:=EP h
 have e:decide (x = 0) = decide (C2 x = 0 ∧ C1 x = 0):=decide_eq_decide.2 h2.symm
 rw [e]
 unfold D6
 generalize C2 x = p at *
 generalize C1 x = q at *
 clear h1 h2 h e
 refine D1 Tryd.func53 6 fun hrd E h0=>?_
 clear hrd
 repeat' ((first|refine A5 ?_|refine S1 ?_|refine Z1 ?_|refine Z2 ?_|(refine And.intro ?_ ?_<;>intro h<;>try first|(exfalso;omega)|exact absurd rfl h)|refine Z3 ?_|refine Z4 ?_|intro el hel hbB|intro el hel|intro ex|refine Z5 ?_|(refine B0 ?_ ?_;exact ⟨by kernel_rfl,by decide⟩)|refine A9 ?_ ?_|exact A8|refine A7 ?_ ?_|exact A6|(refine A3 ?_ ?_ ?_;kernel_rfl;kernel_rfl)) <;> (try (conv=>whnf)))
 all_goals first
  | exact B9 rfl rfl
  | exact B9 rfl (congrArg AV.b (decide_eq_true (by omega)).symm)
  | exact B9 rfl (congrArg AV.b (decide_eq_false (by omega)).symm)
set_option maxHeartbeats 4000000 in
theorem Jz (x:Int) (h:-170141183460469231731687303715884105728 ≤ x ∧ x < 170141183460469231731687303715884105728):B5 Tryd.prog 71 [D6 x] (D6 x.natAbs):=by
 have h1:=CJ x h
 have h2:=W1 0 x
 rw [show (0:Int) - x = -x by omega] at h2
 rcases Int.lt_or_le x 0 with hx | hx
 ·rw [show ((x.natAbs:Nat):Int) = -x by omega]
  rw [decide_eq_true hx] at h1
  refine D1 Tryd.func71 9 (fun hrd E h0=>?_) (hcells:=by intro t T h;cases h;exact ⟨2,inferInstance,fun l h=>by cases h;rfl⟩)
  clear hrd
  repeat' ((first | refine A4 h1 ?_ | refine A4 h2 ?_ |refine A5 ?_|refine S1 ?_|refine Z1 ?_|refine Z2 ?_|(refine And.intro ?_ ?_<;>intro h<;>try first|(exfalso;omega)|exact absurd rfl h)|refine Z3 ?_|refine Z4 ?_|intro el hel hbB|intro el hel|intro ex|refine Z5 ?_|(refine B0 ?_ ?_;exact ⟨by kernel_rfl,by decide⟩)|refine A9 ?_ ?_|exact A8|refine A7 ?_ ?_|exact A6|(refine A3 ?_ ?_ ?_;kernel_rfl;kernel_rfl)) <;> (try (conv=>whnf)))
  all_goals first
   | (exfalso;omega)
   | exact F4 rfl rfl rfl
 ·rw [show ((x.natAbs:Nat):Int) = x by omega]
  rw [decide_eq_false (by omega)] at h1
  refine D1 Tryd.func71 9 (fun hrd E h0=>?_) (hcells:=by intro t T h;cases h;exact ⟨2,inferInstance,fun l h=>by cases h;rfl⟩)
  clear hrd
  repeat' ((first | refine A4 h1 ?_ |refine A5 ?_|refine S1 ?_|refine Z1 ?_|refine Z2 ?_|(refine And.intro ?_ ?_<;>intro h<;>try first|(exfalso;omega)|exact absurd rfl h)|refine Z3 ?_|refine Z4 ?_|intro el hel hbB|intro el hel|intro ex|refine Z5 ?_|(refine B0 ?_ ?_;exact ⟨by kernel_rfl,by decide⟩)|refine A9 ?_ ?_|exact A8|refine A7 ?_ ?_|exact A6|(refine A3 ?_ ?_ ?_;kernel_rfl;kernel_rfl)) <;> (try (conv=>whnf)))
  all_goals first
   | (exfalso;omega)
   | exact F4 rfl rfl rfl
set_option maxHeartbeats 4000000 in
theorem k8 (X Y:Nat) (hX:X < 340282366920938463463374607431768211456) (hY:Y < 340282366920938463463374607431768211456):B5 Tryd.prog 74 [D6 X,D6 Y] (.b (decide (X < Y))):=by
 have h:X < Y ↔ C2 X < C2 Y ∨ C2 X = C2 Y ∧ C1 X < C1 Y:=by unfold C2 C1;omega
 have e:decide (X < Y) = decide (C2 X < C2 Y ∨ C2 X = C2 Y ∧ C1 X < C1 Y):=decide_eq_decide.2 h
 rw [e]
 unfold D6
 generalize C2 X = p at *
 generalize C1 X = q at *
 generalize C2 Y = r at *
 generalize C1 Y = s at *
 clear h e
 refine D1 Tryd.func74 24 fun hrd E h0=>?_
 clear hrd
 repeat' ((first|refine A5 ?_|refine S1 ?_|refine Z1 ?_|refine Z2 ?_|(refine And.intro ?_ ?_<;>intro h<;>try first|(exfalso;omega)|exact absurd rfl h)|refine Z3 ?_|refine Z4 ?_|intro el hel hbB|intro el hel|intro ex|refine Z5 ?_|(refine B0 ?_ ?_;exact ⟨by kernel_rfl,by decide⟩)|refine A9 ?_ ?_|exact A8|refine A7 ?_ ?_|exact A6|(refine A3 ?_ ?_ ?_;kernel_rfl;kernel_rfl)) <;> (try (conv=>whnf)))
 all_goals first
  | exact B9 rfl rfl
  | exact B9 rfl (congrArg AV.b (decide_eq_true (by omega)).symm)
  | exact B9 rfl (congrArg AV.b (decide_eq_false (by omega)).symm)
  | exact B9 rfl (congrArg AV.b (decide_eq_decide.2 (by omega)))
end Go.Proofs.YtbhegmcbpolemaaDoor

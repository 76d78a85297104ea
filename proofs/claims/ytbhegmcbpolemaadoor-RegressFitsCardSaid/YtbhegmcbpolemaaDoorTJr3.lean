/- The greatest common divisor by halves, and long division. -/
import Derived.Test.YtbhegmcbpolemaaDoorTJr2
set_option linter.unusedVariables false
set_option linter.unnecessarySimpa false
set_option linter.unusedSimpArgs false
namespace Go.Proofs.YtbhegmcbpolemaaDoor
open Go Go.Av
attribute [local irreducible] E4 B6 F1 E7 DQ F6 F9 St.le B5 D4
set_option maxRecDepth 100000
theorem DP {X:Nat} (h0:X ≠ 0) (hX:X < 340282366920938463463374607431768211456):X / 2 ^ zW X % 2 = 1 ∧ X = 2 ^ zW X * (X / 2 ^ zW X) ∧ zW X < 128 ∧ X / 2 ^ zW X ≤ X ∧ 0 < X / 2 ^ zW X:=by
 obtain ⟨m,h1,h2⟩:=Ic h0 hX
 have e:X / 2 ^ zW X = 2 * m + 1:=by
  have:X / 2 ^ zW X = 2 ^ zW X * (2 * m + 1) / 2 ^ zW X:=congrArg (· / 2 ^ zW X) h1
  rw [this,Nat.mul_div_cancel_left _ (Nat.pow_pos (by decide))]
 exact ⟨by rw [e];omega,by rw [e];exact h1,h2,Nat.div_le_self _ _,by rw [e];omega⟩
abbrev D3 (x:Int):List AV:=[uA (C2 x),uA (C1 x)]
theorem Fh (x:Int) (h:-170141183460469231731687303715884105728 ≤ x ∧ x < 170141183460469231731687303715884105728):(C2 x = 0 ∧ C1 x = 0) ↔ x = 0:=(EP h).2
set_option maxHeartbeats 16000000 in
theorem IB (X Y:Nat) (h0:X ≠ 0) (hX:X < 170141183460469231731687303715884105728) (hY:Y < 170141183460469231731687303715884105728):B5 Tryd.prog 59 [D6 X,D6 Y] (D6 ((Nat.gcd X Y:Nat):Int)):=by
 have hz:=Fh Y (by omega)
 by_cases hY0:Y = 0
 ·subst hY0
  rw [Nat.gcd_zero_right]
  have hz2:=hz.2 rfl
  unfold D6
  generalize C2 ((0:Nat):Int) = p at *
  generalize C1 ((0:Nat):Int) = q at *
  obtain ⟨rfl,rfl⟩:=hz2
  refine D1 Tryd.func59 39 (fun hrd E h0=>?_) (hcells:=by intro t T h;cases h;exact ⟨2,inferInstance,fun l h=>by cases h;rfl⟩)
  clear hrd
  repeat' ((first|refine A5 ?_|refine S1 ?_|refine Z1 ?_|refine Z2 ?_|(refine And.intro ?_ ?_<;>intro h<;>try first|(exfalso;omega)|exact absurd rfl h)|refine Z3 ?_|refine Z4 ?_|intro el hel hbB|intro el hel|intro ex|refine Z5 ?_|(refine B0 ?_ ?_;exact ⟨by kernel_rfl,by decide⟩)|refine A9 ?_ ?_|exact A8|refine A7 ?_ ?_|exact A6|(refine A3 ?_ ?_ ?_;kernel_rfl;kernel_rfl)) <;> (try (conv=>whnf)))
  all_goals first
   | (exfalso;omega)
   | exact F4 rfl rfl rfl
 have hzn:¬ (C2 Y = 0 ∧ C1 Y = 0):=fun h=>hY0 (by have:=hz.1 h;omega)
 obtain ⟨x1,x2,x3,x4,x5⟩:=DP h0 (by omega)
 obtain ⟨y1,y2,y3,y4,y5⟩:=DP hY0 (by omega)
 have c1:=BD X h0 (by omega)
 have c2:=BD Y hY0 (by omega)
 have c3:=ES X (zW X) (by omega) x3
 have hG:Nat.gcd X Y = 2 ^ min (zW X) (zW Y) * Nat.gcd (X / 2 ^ zW X) Y:=by
  have:=Oi (i:=zW X) (j:=zW Y) x1 y1
  rw [← x2, ← y2] at this
  exact this
 have hGl:Nat.gcd X Y ≤ X:=Nat.gcd_le_left _ (by omega)
 generalize hGG:Nat.gcd X Y = G at *
 generalize X / 2 ^ zW X = A0 at *
 generalize hzX:zW X = zx at *
 generalize hzY:zW Y = zy at *
 clear x2 y2 y1 y4 y5 hzX hzY
 refine D1 Tryd.func59 39 (fun hrd E h0=>?_) (hcells:=by intro t T h;cases h;exact ⟨2,inferInstance,fun l h=>by cases h;rfl⟩)
 clear hrd
 repeat' ((first | refine A4 c1 ?_ | refine A4 c2 ?_ | refine A4 c3 ?_ | (refine F5 (id:=4) ⟨[(2, .ref 0 0),(3, .ref 1 0),(4, .ref 2 0),(5, .i (min (zx:Int) zy))],3,[(0,some (.box (D3 A0))),(1,some (.box (D3 Y))),(2,some (.box [uA 0,uA 0]))]⟩ ?_ ?_) |refine A5 ?_|refine S1 ?_|refine Z1 ?_|refine Z2 ?_|(refine And.intro ?_ ?_<;>intro h<;>try first|(exfalso;omega)|exact absurd rfl h)|refine Z3 ?_|refine Z4 ?_|intro el hel hbB|intro el hel|intro ex|refine Z5 ?_|(refine B0 ?_ ?_;exact ⟨by kernel_rfl,by decide⟩)|refine A9 ?_ ?_|exact A8|refine A7 ?_ ?_|exact A6|(refine A3 ?_ ?_ ?_;kernel_rfl;kernel_rfl)) <;> (try (conv=>whnf)))
 all_goals first
  | (exfalso;omega)
  | exact B4 h0 rfl ⟨rfl,rfl,rfl,rfl,trivial⟩ ⟨rfl,rfl,rfl,trivial⟩ rfl rfl rfl
  | skip
 clear c1 c2 c3
 refine D7 (ι:=Nat × Nat) (fun s=>⟨[(2, .ref 0 0),(3, .ref 1 0),(4, .ref 2 0),(5, .i (min (zx:Int) zy))],3,[(0,some (.box (D3 s.1))),(1,some (.box (D3 s.2))),(2,some (.box [uA 0,uA 0]))]⟩) (fun s=>s.1 % 2 = 1 ∧ s.1 ≤ 170141183460469231731687303715884105727 ∧ s.2 ≤ 170141183460469231731687303715884105727 ∧ 2 ^ min zx zy * Nat.gcd s.1 s.2 = G) (fun s=>s.1 + s.2) (A0,Y) ⟨x1,by omega,by omega,hG.symm⟩
  (B4 h0 rfl ⟨rfl,rfl,rfl,rfl,trivial⟩ ⟨rfl,rfl,rfl,trivial⟩ rfl rfl rfl) (fun s hI=>?_)
 obtain ⟨A,B⟩:=s
 obtain ⟨i1,i2,i3,i4⟩:=hI
 dsimp only at i1 i2 i3 i4 ⊢
 clear hG x1 x4 x5 hzn hz
 have hz:=Fh B (by omega)
 by_cases hB:B = 0
 ·subst hB
  rw [Nat.gcd_zero_right] at i4
  have hz2:=hz.2 rfl
  have hl:=Fg A (min zx zy) (by omega) (by omega)
  rw [Nat.mul_comm,i4] at hl
  have e5:((min zx zy:Nat):Int) = min (zx:Int) zy:=by omega
  rw [e5] at hl
  repeat' ((first | refine A4 hl ?_ |refine A5 ?_|refine S1 ?_|refine Z1 ?_|refine Z2 ?_|(refine And.intro ?_ ?_<;>intro h<;>try first|(exfalso;omega)|exact absurd rfl h)|refine Z3 ?_|refine Z4 ?_|intro el hel hbB|intro el hel|intro ex|refine Z5 ?_|(refine B0 ?_ ?_;exact ⟨by kernel_rfl,by decide⟩)|refine A9 ?_ ?_|exact A8|refine A7 ?_ ?_|exact A6|(refine A3 ?_ ?_ ?_;kernel_rfl;kernel_rfl)) <;> (try (conv=>whnf)))
  all_goals first
   | (exfalso;omega)
   | exact F4 rfl rfl rfl
 have hzn:¬ (C2 B = 0 ∧ C1 B = 0):=fun h=>hB (by have:=hz.1 h;omega)
 obtain ⟨b1,b2,b3,b4,b5⟩:=DP hB (by omega)
 have c1:=BD B hB (by omega)
 have c2:=ES B (zW B) (by omega) b3
 have e1:Nat.gcd A B = Nat.gcd A (B / 2 ^ zW B):=by
  have:=CV i1 (zW B) (B / 2 ^ zW B)
  rw [← b2] at this;exact this
 rw [e1] at i4
 generalize B / 2 ^ zW B = B' at *
 generalize zW B = zb at *
 clear b2 e1
 have c3:=BB B' A
 have c4:=U1 ((B':Int) - A) (by omega)
 have c5:=BB A B'
 by_cases hlt:B' < A
 ·rw [Int.sign_eq_neg_one_of_neg (by omega)] at c4
  have e2:Nat.gcd B' (A - B') = Nat.gcd A B':=by rw [Nat.gcd_sub_self_right (by omega),Nat.gcd_comm]
  have e3:(A:Int) - B' = ((A - B':Nat):Int):=by omega
  rw [e3] at c5
  repeat' ((first | refine A4 c1 ?_ | refine A4 c2 ?_ | refine A4 c3 ?_ | refine A4 c4 ?_ | refine A4 c5 ?_ | (refine F5 (id:=6) ⟨[(2, .ref 0 0),(3, .ref 1 0),(4, .ref 2 0),(5, .i (min (zx:Int) zy))],3,[(0,some (.box (D3 A))),(1,some (.box (D3 B'))),(2,some (.box [uA 0,uA 0]))]⟩ ?_ ?_) | (refine F5 (id:=8) ⟨[(2, .ref 0 0),(3, .ref 1 0),(4, .ref 2 0),(5, .i (min (zx:Int) zy))],3,[(0,some (.box (D3 B'))),(1,some (.box (D3 A))),(2,some (.box [uA 0,uA 0]))]⟩ ?_ ?_) | (refine F5 (id:=9) ⟨[(2, .ref 0 0),(3, .ref 1 0),(4, .ref 2 0),(5, .i (min (zx:Int) zy))],3,[(0,some (.box (D3 B'))),(1,some (.box (D3 ((A - B':Nat):Int)))),(2,some (.box [uA 0,uA 0]))]⟩ ?_ ?_) |refine A5 ?_|refine S1 ?_|refine Z1 ?_|refine Z2 ?_|(refine And.intro ?_ ?_<;>intro h<;>try first|(exfalso;omega)|exact absurd rfl h)|refine Z3 ?_|refine Z4 ?_|intro el hel hbB|intro el hel|intro ex|refine Z5 ?_|(refine B0 ?_ ?_;exact ⟨by kernel_rfl,by decide⟩)|refine A9 ?_ ?_|exact A8|refine A7 ?_ ?_|exact A6|(refine A3 ?_ ?_ ?_;kernel_rfl;kernel_rfl)) <;> (try (conv=>whnf)))
  all_goals first
   | (exfalso;omega)
   | exact B4 h0 rfl ⟨rfl,rfl,rfl,rfl,trivial⟩ ⟨rfl,rfl,rfl,trivial⟩ rfl rfl rfl
   | exact ⟨(B',A - B'),⟨b1,by dsimp only;omega,by dsimp only;omega,by dsimp only;rw [e2];exact i4⟩,by dsimp only;omega,B4 h0 rfl ⟨rfl,rfl,rfl,rfl,trivial⟩ ⟨rfl,rfl,rfl,trivial⟩ rfl rfl rfl⟩
 ·have hs:0 ≤ ((B':Int) - A).sign:=by
   rcases Nat.lt_or_ge A B' with h | h
   ·rw [Int.sign_eq_one_of_pos (by omega)];decide
   ·rw [show (B':Int) - A = 0 by omega];decide
  have e2:Nat.gcd A (B' - A) = Nat.gcd A B':=Nat.gcd_sub_self_right (by omega)
  have e3:(B':Int) - A = ((B' - A:Nat):Int):=by omega
  generalize ((B':Int) - A).sign = sg at *
  rw [e3] at c3 c4
  repeat' ((first | refine A4 c1 ?_ | refine A4 c2 ?_ | refine A4 c3 ?_ | refine A4 c4 ?_ | (refine F5 (id:=6) ⟨[(2, .ref 0 0),(3, .ref 1 0),(4, .ref 2 0),(5, .i (min (zx:Int) zy))],3,[(0,some (.box (D3 A))),(1,some (.box (D3 B'))),(2,some (.box [uA 0,uA 0]))]⟩ ?_ ?_) | (refine F5 (id:=9) ⟨[(2, .ref 0 0),(3, .ref 1 0),(4, .ref 2 0),(5, .i (min (zx:Int) zy))],3,[(0,some (.box (D3 A))),(1,some (.box (D3 ((B' - A:Nat):Int)))),(2,some (.box [uA 0,uA 0]))]⟩ ?_ ?_) |refine A5 ?_|refine S1 ?_|refine Z1 ?_|refine Z2 ?_|(refine And.intro ?_ ?_<;>intro h<;>try first|(exfalso;omega)|exact absurd rfl h)|refine Z3 ?_|refine Z4 ?_|intro el hel hbB|intro el hel|intro ex|refine Z5 ?_|(refine B0 ?_ ?_;exact ⟨by kernel_rfl,by decide⟩)|refine A9 ?_ ?_|exact A8|refine A7 ?_ ?_|exact A6|(refine A3 ?_ ?_ ?_;kernel_rfl;kernel_rfl)) <;> (try (conv=>whnf)))
  all_goals first
   | (exfalso;omega)
   | exact B4 h0 rfl ⟨rfl,rfl,rfl,rfl,trivial⟩ ⟨rfl,rfl,rfl,trivial⟩ rfl rfl rfl
   | exact ⟨(A,B' - A),⟨i1,by dsimp only;omega,by dsimp only;omega,by dsimp only;rw [e2];exact i4⟩,by dsimp only;omega,B4 h0 rfl ⟨rfl,rfl,rfl,rfl,trivial⟩ ⟨rfl,rfl,rfl,trivial⟩ rfl rfl rfl⟩
end Go.Proofs.YtbhegmcbpolemaaDoor

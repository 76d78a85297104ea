/- The reference's fractions in lowest terms. -/
import Derived.Test.YtbhegmcbpolemaaDoorTJy2
set_option linter.unusedVariables false
set_option linter.unnecessarySimpa false
set_option linter.unusedSimpArgs false
namespace Go.Proofs.YtbhegmcbpolemaaDoor
open Go Go.Av
attribute [local irreducible] E4 B6 F1 E7 DQ F6 F9 St.le B5 D4
set_option maxRecDepth 100000
set_option maxHeartbeats 16000000 in
theorem Hd (X Y:Nat) (hX:X < 170141183460469231731687303715884105728) (hY:Y < 170141183460469231731687303715884105728):B5 Tryd.prog 72 [D6 X,D6 Y] (D6 ((Nat.gcd X Y:Nat):Int)):=by
 generalize hG:Nat.gcd X Y = G
 refine D1 Tryd.func72 19 (fun hrd E h0=>?_) (hcells:=by intro t T h;cases h;exact ⟨2,inferInstance,fun l h=>by cases h;rfl⟩)
 clear hrd
 repeat' ((first|refine A5 ?_|refine S1 ?_|refine Z1 ?_|refine Z2 ?_|(refine And.intro ?_ ?_<;>intro h<;>try first|(exfalso;omega)|exact absurd rfl h)|refine Z3 ?_|refine Z4 ?_|intro el hel hbB|intro el hel|intro ex|refine Z5 ?_|(refine B0 ?_ ?_;exact ⟨by kernel_rfl,by decide⟩)|refine A9 ?_ ?_|exact A8|refine A7 ?_ ?_|exact A6|(refine A3 ?_ ?_ ?_;kernel_rfl;kernel_rfl)) <;> (try (conv=>whnf)))
 refine D7 (ι:=Nat × Nat) (fun s=>⟨[(2, .ref 0 0),(3, .ref 1 0),(4, .ref 2 0)],3,[(0,some (.box (D3 s.1))),(1,some (.box (D3 s.2))),(2,some (.box [uA 0,uA 0]))]⟩) (fun s=>s.1 < 170141183460469231731687303715884105728 ∧ s.2 < 170141183460469231731687303715884105728 ∧ Nat.gcd s.1 s.2 = G) (fun s=>s.2) (X,Y) ⟨hX,hY,hG⟩
  (B4 h0 rfl ⟨rfl,rfl,rfl,trivial⟩ ⟨rfl,rfl,rfl,trivial⟩ rfl rfl rfl) (fun s hI=>?_)
 obtain ⟨A,B⟩:=s
 obtain ⟨i1,i2,i3⟩:=hI
 dsimp only at i1 i2 i3 ⊢
 clear hG
 have c1:=BN B (by omega)
 by_cases hB:B = 0
 ·subst hB
  rw [Nat.gcd_zero_right] at i3
  subst i3
  rw [decide_eq_true (by decide:((0:Nat):Int) = 0)] at c1
  repeat' ((first | refine A4 c1 ?_ |refine A5 ?_|refine S1 ?_|refine Z1 ?_|refine Z2 ?_|(refine And.intro ?_ ?_<;>intro h<;>try first|(exfalso;omega)|exact absurd rfl h)|refine Z3 ?_|refine Z4 ?_|intro el hel hbB|intro el hel|intro ex|refine Z5 ?_|(refine B0 ?_ ?_;exact ⟨by kernel_rfl,by decide⟩)|refine A9 ?_ ?_|exact A8|refine A7 ?_ ?_|exact A6|(refine A3 ?_ ?_ ?_;kernel_rfl;kernel_rfl)) <;> (try (conv=>whnf)))
  all_goals first
   | (exfalso;omega)
   | exact F4 rfl rfl rfl
 rw [decide_eq_false (by omega)] at c1
 have c2:=o9 A B i1 (by omega) i2
 have hm:=Nat.mod_lt A (show 0 < B by omega)
 have hg:Nat.gcd B (A % B) = G:=by rw [Nat.gcd_comm, ← Nat.gcd_rec,Nat.gcd_comm];exact i3
 generalize A / B = Q at *
 generalize hR:A % B = R at *
 repeat' ((first | refine A4 c1 ?_ | refine A4 c2 ?_ | (refine Es 3 ?_;refine Et (id:=3) (σ':=⟨[(2, .ref 0 0),(3, .ref 1 0),(4, .ref 2 0),(6, .iptr (D3 R))],5,[(0,some (.box (D3 A))),(1,some (.box (D3 B))),(2,some (.box [uA 0,uA 0]))]⟩) (B4 h0 rfl ⟨rfl,rfl,rfl,rfl,trivial⟩ ⟨rfl,rfl,rfl,trivial⟩ rfl rfl rfl) ?_;refine F5 (id:=3) ⟨[(2, .ref 0 0),(3, .ref 1 0),(4, .ref 2 0)],5,[(0,some (.box (D3 B))),(1,some (.box (D3 R))),(2,some (.box [uA 0,uA 0]))]⟩ ?_ ?_) |refine A5 ?_|refine S1 ?_|refine Z1 ?_|refine Z2 ?_|(refine And.intro ?_ ?_<;>intro h<;>try first|(exfalso;omega)|exact absurd rfl h)|refine Z3 ?_|refine Z4 ?_|intro el hel hbB|intro el hel|intro ex|refine Z5 ?_|(refine B0 ?_ ?_;exact ⟨by kernel_rfl,by decide⟩)|refine A9 ?_ ?_|exact A8|refine A7 ?_ ?_|exact A6|(refine A3 ?_ ?_ ?_;kernel_rfl;kernel_rfl)) <;> (try (conv=>whnf)))
 all_goals first
  | (exfalso;omega)
  | exact B4 h0 rfl ⟨rfl,rfl,rfl,trivial⟩ ⟨rfl,rfl,rfl,trivial⟩ rfl rfl rfl
  | exact ⟨(B,R),⟨i2,by dsimp only;omega,hg⟩,hm,B4 h0 rfl ⟨rfl,rfl,rfl,trivial⟩ ⟨rfl,rfl,rfl,trivial⟩ rfl rfl rfl⟩
set_option maxHeartbeats 16000000 in
theorem u6 (num den:Int) (hn:-170141183460469231731687303715884105728 < num ∧ num < 170141183460469231731687303715884105728) (hd:-170141183460469231731687303715884105728 < den ∧ den < 170141183460469231731687303715884105728) (h0d:den ≠ 0):B5 Tryd.prog 54 [D6 num,D6 den] (CD (M4 num den)):=by
 rw [FZ h0d]
 have e1:=CJ den (by omega)
 have e2:=W1 0 num
 have e3:=W1 0 den
 rw [show (0:Int) - num = -num by omega] at e2
 rw [show (0:Int) - den = -den by omega] at e3
 obtain ⟨N,hN,hN2⟩:∃ N,(if den < 0 then -num else num) = N ∧ N.natAbs = num.natAbs:=⟨_,rfl,by split <;> omega⟩
 obtain ⟨D,hD,hD2⟩:∃ D:Int,(if den < 0 then -den else den) = D ∧ D = (den.natAbs:Nat):=⟨_,rfl,by split <;> omega⟩
 have c1:=Jz N (by omega)
 rw [hN2] at c1
 rw [hN]
 have c2:=Hd den.natAbs num.natAbs (by omega) (by omega)
 have hg0:0 < Nat.gcd den.natAbs num.natAbs:=Nat.gcd_pos_of_pos_left _ (by omega)
 have hgl:Nat.gcd den.natAbs num.natAbs ≤ den.natAbs:=Nat.gcd_le_left _ (by omega)
 have c3:=o9 num.natAbs (Nat.gcd den.natAbs num.natAbs) (by omega) hg0 (by omega)
 have c4:=o9 den.natAbs (Nat.gcd den.natAbs num.natAbs) (by omega) hg0 (by omega)
 have bx:num.natAbs / Nat.gcd den.natAbs num.natAbs ≤ num.natAbs:=Nat.div_le_self _ _
 have bY:den.natAbs / Nat.gcd den.natAbs num.natAbs ≤ den.natAbs:=Nat.div_le_self _ _
 have c5:=k8 1152921504606846976 (num.natAbs / Nat.gcd den.natAbs num.natAbs) (by omega) (by omega)
 have c6:=k8 1152921504606846976 (den.natAbs / Nat.gcd den.natAbs num.natAbs) (by omega) (by omega)
 rw [show D6 ((1152921504606846976:Nat):Int) = .agg [uA 0,uA 1152921504606846976] by unfold D6;rw [show C2 ((1152921504606846976:Nat):Int) = 0 by decide,show C1 ((1152921504606846976:Nat):Int) = 1152921504606846976 by decide]] at c5 c6
 have c7:=CJ N (by omega)
 have hsg:∀ z:Int,N.sign * z = if N < 0 then -z else if N = 0 then 0 else z:=fun z=>by
  rcases Int.lt_trichotomy N 0 with h | h | h
  ·rw [Int.sign_eq_neg_one_of_neg h,if_pos h];omega
  ·rw [h];simp
  ·rw [Int.sign_eq_one_of_pos h,if_neg (by omega),if_neg (by omega)];omega
 have hx0:N = 0 → num.natAbs / Nat.gcd den.natAbs num.natAbs = 0:=fun h=>by
  have:num.natAbs = 0:=by omega
  rw [this,Nat.zero_div]
 rw [hsg]
 generalize num.natAbs % Nat.gcd den.natAbs num.natAbs = u at *
 generalize den.natAbs % Nat.gcd den.natAbs num.natAbs = v at *
 generalize num.natAbs / Nat.gcd den.natAbs num.natAbs = x at *
 generalize den.natAbs / Nat.gcd den.natAbs num.natAbs = y at *
 generalize Nat.gcd den.natAbs num.natAbs = g at *
 have hfin:(if x ≤ 1152921504606846976 ∧ y ≤ 1152921504606846976 then some ((if N < 0 then -(x:Int) else if N = 0 then 0 else (x:Int)),((y:Nat):Int)) else none) = if x ≤ 1152921504606846976 ∧ y ≤ 1152921504606846976 then some (if N < 0 then - C1 x else C1 x,C1 y) else none:=by
  by_cases h:x ≤ 1152921504606846976 ∧ y ≤ 1152921504606846976
  ·rw [if_pos h,if_pos h]
   have a1:C1 (x:Int) = x:=by unfold C1;omega
   have a2:C1 (y:Int) = y:=by unfold C1;omega
   rw [a1,a2]
   congr 2
   by_cases h1:N < 0
   ·rw [if_pos h1,if_pos h1]
   ·rw [if_neg h1,if_neg h1]
    by_cases h2:N = 0
    ·rw [if_pos h2,hx0 h2];rfl
    ·rw [if_neg h2]
  ·rw [if_neg h,if_neg h]
 rw [hfin]
 clear hfin hsg hx0
 by_cases hok:x ≤ 1152921504606846976 ∧ y ≤ 1152921504606846976
 rotate_left
 ·rw [if_neg hok]
  by_cases hneg:den < 0
  ·rw [if_pos hneg] at hN hD
   subst hN
   rw [← hD] at hD2
   rw [hD2] at e3
   rw [decide_eq_true hneg] at e1
   clear c7
   refine D1 Tryd.func54 63 fun hrd E h0=>?_
   clear hrd
   repeat' ((first | refine A4 e1 ?_ | refine A4 e2 ?_ | refine A4 e3 ?_ | refine A4 c1 ?_ | refine A4 c2 ?_ | refine A4 c3 ?_ | refine A4 c4 ?_ | refine A4 c5 ?_ | refine A4 c6 ?_ | (refine F5 (id:=2) ⟨[(2, .ref 0 0),(3, .ref 1 0),(4, .ref 2 0),(5, .i 0)],3,[(0,some (.box (D3 (-num)))),(1,some (.box (D3 ((den.natAbs:Nat):Int)))),(2,some (.box [.i 0, .i 0]))]⟩ ?_ ?_) |refine A5 ?_|refine S1 ?_|refine Z1 ?_|refine Z2 ?_|(refine And.intro ?_ ?_<;>intro h<;>try first|(exfalso;omega)|exact absurd rfl h)|refine Z3 ?_|refine Z4 ?_|intro el hel hbB|intro el hel|intro ex|refine Z5 ?_|(refine B0 ?_ ?_;exact ⟨by kernel_rfl,by decide⟩)|refine A9 ?_ ?_|exact A8|refine A7 ?_ ?_|exact A6|(refine A3 ?_ ?_ ?_;kernel_rfl;kernel_rfl)) <;> (try (conv=>whnf)))
   all_goals first
    | (exfalso;omega)
    | exact B4 h0 rfl ⟨rfl,rfl,rfl,rfl,trivial⟩ ⟨rfl,rfl,rfl,trivial⟩ rfl rfl rfl
    | exact E6 rfl rfl rfl (.refl _) rfl (.refl _) rfl
  ·rw [if_neg hneg] at hN hD
   subst hN
   have e0:D6 den = D6 ((den.natAbs:Nat):Int):=congrArg D6 (by omega)
   rw [decide_eq_false hneg,e0] at e1
   rw [e0]
   clear c7 e2 e3
   refine D1 Tryd.func54 63 fun hrd E h0=>?_
   clear hrd
   repeat' ((first | refine A4 e1 ?_ | refine A4 c1 ?_ | refine A4 c2 ?_ | refine A4 c3 ?_ | refine A4 c4 ?_ | refine A4 c5 ?_ | refine A4 c6 ?_ |refine A5 ?_|refine S1 ?_|refine Z1 ?_|refine Z2 ?_|(refine And.intro ?_ ?_<;>intro h<;>try first|(exfalso;omega)|exact absurd rfl h)|refine Z3 ?_|refine Z4 ?_|intro el hel hbB|intro el hel|intro ex|refine Z5 ?_|(refine B0 ?_ ?_;exact ⟨by kernel_rfl,by decide⟩)|refine A9 ?_ ?_|exact A8|refine A7 ?_ ?_|exact A6|(refine A3 ?_ ?_ ?_;kernel_rfl;kernel_rfl)) <;> (try (conv=>whnf)))
   all_goals first
    | (exfalso;omega)
    | exact E6 rfl rfl rfl (.refl _) rfl (.refl _) rfl
 have d5:decide (1152921504606846976 < x) = false:=decide_eq_false (by omega)
 have d6:decide (1152921504606846976 < y) = false:=decide_eq_false (by omega)
 rw [d5] at c5
 rw [d6] at c6
 rw [if_pos hok]
 have w1:IntKind.i64.wrap (C1 x) = C1 x:=H4 (by unfold C1;omega)
 have w2:IntKind.i64.wrap (C1 y) = C1 y:=H4 (by unfold C1;omega)
 have w3:0 ≤ C1 (x:Int) ∧ C1 (x:Int) ≤ 1152921504606846976:=by unfold C1;omega
 by_cases hneg:den < 0
 ·rw [if_pos hneg] at hN hD
  subst hN
  rw [← hD] at hD2
  rw [hD2] at e3
  rw [decide_eq_true hneg] at e1
  by_cases hs:-num < 0
  ·rw [decide_eq_true hs] at c7
   rw [if_pos hs]
   refine D1 Tryd.func54 63 fun hrd E h0=>?_
   clear hrd
   repeat' ((first | refine A4 e1 ?_ | refine A4 e2 ?_ | refine A4 e3 ?_ | refine A4 c1 ?_ | refine A4 c2 ?_ | refine A4 c3 ?_ | refine A4 c4 ?_ | refine A4 c5 ?_ | refine A4 c6 ?_ | refine A4 c7 ?_ | refine U5 w1 ?_ | refine U5 w2 ?_ | (refine F5 (id:=2) ⟨[(2, .ref 0 0),(3, .ref 1 0),(4, .ref 2 0),(5, .i 0)],3,[(0,some (.box (D3 (-num)))),(1,some (.box (D3 ((den.natAbs:Nat):Int)))),(2,some (.box [.i 0, .i 0]))]⟩ ?_ ?_) |refine A5 ?_|refine S1 ?_|refine Z1 ?_|refine Z2 ?_|(refine And.intro ?_ ?_<;>intro h<;>try first|(exfalso;omega)|exact absurd rfl h)|refine Z3 ?_|refine Z4 ?_|intro el hel hbB|intro el hel|intro ex|refine Z5 ?_|(refine B0 ?_ ?_;exact ⟨by kernel_rfl,by decide⟩)|refine A9 ?_ ?_|exact A8|refine A7 ?_ ?_|exact A6|(refine A3 ?_ ?_ ?_;kernel_rfl;kernel_rfl)) <;> (try (conv=>whnf)))
   all_goals first
    | (exfalso;omega)
    | exact B4 h0 rfl ⟨rfl,rfl,rfl,rfl,trivial⟩ ⟨rfl,rfl,rfl,trivial⟩ rfl rfl rfl
    | exact E6 rfl rfl rfl (.refl _) rfl (.refl _) rfl
  ·rw [decide_eq_false hs] at c7
   rw [if_neg hs]
   refine D1 Tryd.func54 63 fun hrd E h0=>?_
   clear hrd
   repeat' ((first | refine A4 e1 ?_ | refine A4 e2 ?_ | refine A4 e3 ?_ | refine A4 c1 ?_ | refine A4 c2 ?_ | refine A4 c3 ?_ | refine A4 c4 ?_ | refine A4 c5 ?_ | refine A4 c6 ?_ | refine A4 c7 ?_ | refine U5 w1 ?_ | refine U5 w2 ?_ | (refine F5 (id:=2) ⟨[(2, .ref 0 0),(3, .ref 1 0),(4, .ref 2 0),(5, .i 0)],3,[(0,some (.box (D3 (-num)))),(1,some (.box (D3 ((den.natAbs:Nat):Int)))),(2,some (.box [.i 0, .i 0]))]⟩ ?_ ?_) |refine A5 ?_|refine S1 ?_|refine Z1 ?_|refine Z2 ?_|(refine And.intro ?_ ?_<;>intro h<;>try first|(exfalso;omega)|exact absurd rfl h)|refine Z3 ?_|refine Z4 ?_|intro el hel hbB|intro el hel|intro ex|refine Z5 ?_|(refine B0 ?_ ?_;exact ⟨by kernel_rfl,by decide⟩)|refine A9 ?_ ?_|exact A8|refine A7 ?_ ?_|exact A6|(refine A3 ?_ ?_ ?_;kernel_rfl;kernel_rfl)) <;> (try (conv=>whnf)))
   all_goals first
    | (exfalso;omega)
    | exact B4 h0 rfl ⟨rfl,rfl,rfl,rfl,trivial⟩ ⟨rfl,rfl,rfl,trivial⟩ rfl rfl rfl
    | exact E6 rfl rfl rfl (.refl _) rfl (.refl _) rfl
 ·rw [if_neg hneg] at hN hD
  subst hN
  have e0:D6 den = D6 ((den.natAbs:Nat):Int):=congrArg D6 (by omega)
  rw [decide_eq_false hneg,e0] at e1
  rw [e0]
  clear e2 e3
  by_cases hs:num < 0
  ·rw [decide_eq_true hs] at c7
   rw [if_pos hs]
   refine D1 Tryd.func54 63 fun hrd E h0=>?_
   clear hrd
   repeat' ((first | refine A4 e1 ?_ | refine A4 c1 ?_ | refine A4 c2 ?_ | refine A4 c3 ?_ | refine A4 c4 ?_ | refine A4 c5 ?_ | refine A4 c6 ?_ | refine A4 c7 ?_ | refine U5 w1 ?_ | refine U5 w2 ?_ |refine A5 ?_|refine S1 ?_|refine Z1 ?_|refine Z2 ?_|(refine And.intro ?_ ?_<;>intro h<;>try first|(exfalso;omega)|exact absurd rfl h)|refine Z3 ?_|refine Z4 ?_|intro el hel hbB|intro el hel|intro ex|refine Z5 ?_|(refine B0 ?_ ?_;exact ⟨by kernel_rfl,by decide⟩)|refine A9 ?_ ?_|exact A8|refine A7 ?_ ?_|exact A6|(refine A3 ?_ ?_ ?_;kernel_rfl;kernel_rfl)) <;> (try (conv=>whnf)))
   all_goals first
    | (exfalso;omega)
    | exact E6 rfl rfl rfl (.refl _) rfl (.refl _) rfl
  ·rw [decide_eq_false hs] at c7
   rw [if_neg hs]
   refine D1 Tryd.func54 63 fun hrd E h0=>?_
   clear hrd
   repeat' ((first | refine A4 e1 ?_ | refine A4 c1 ?_ | refine A4 c2 ?_ | refine A4 c3 ?_ | refine A4 c4 ?_ | refine A4 c5 ?_ | refine A4 c6 ?_ | refine A4 c7 ?_ | refine U5 w1 ?_ | refine U5 w2 ?_ |refine A5 ?_|refine S1 ?_|refine Z1 ?_|refine Z2 ?_|(refine And.intro ?_ ?_<;>intro h<;>try first|(exfalso;omega)|exact absurd rfl h)|refine Z3 ?_|refine Z4 ?_|intro el hel hbB|intro el hel|intro ex|refine Z5 ?_|(refine B0 ?_ ?_;exact ⟨by kernel_rfl,by decide⟩)|refine A9 ?_ ?_|exact A8|refine A7 ?_ ?_|exact A6|(refine A3 ?_ ?_ ?_;kernel_rfl;kernel_rfl)) <;> (try (conv=>whnf)))
   all_goals first
    | (exfalso;omega)
    | exact E6 rfl rfl rfl (.refl _) rfl (.refl _) rfl
set_option maxHeartbeats 4000000 in
theorem NT (num den:Int) (hn:-9223372036854775808 ≤ num ∧ num ≤ 9223372036854775807) (hd:1 ≤ den ∧ den ≤ 9223372036854775807):B5 Tryd.prog 32 [.i num, .i den] (CD (M4 num den)):=by
 have h1:=U9 num hn.1 hn.2
 have h2:=U9 den (by omega) hd.2
 have h3:=u6 num den (by omega) (by omega) (by omega)
 rw [PE] at h3 ⊢
 generalize QL (M4 num den) = R at *
 obtain ⟨e,n,d⟩:=R
 refine D1 Tryd.func32 16 fun hrd E h0=>?_
 clear hrd
 repeat' ((first | refine A4 h1 ?_ | refine A4 h2 ?_ | refine A4 h3 ?_ |refine A5 ?_|refine S1 ?_|refine Z1 ?_|refine Z2 ?_|(refine And.intro ?_ ?_<;>intro h<;>try first|(exfalso;omega)|exact absurd rfl h)|refine Z3 ?_|refine Z4 ?_|intro el hel hbB|intro el hel|intro ex|refine Z5 ?_|(refine B0 ?_ ?_;exact ⟨by kernel_rfl,by decide⟩)|refine A9 ?_ ?_|exact A8|refine A7 ?_ ?_|exact A6|(refine A3 ?_ ?_ ?_;kernel_rfl;kernel_rfl)) <;> (try (conv=>whnf)))
 all_goals first
  | (exfalso;omega)
  | exact E6 rfl rfl rfl (.refl _) rfl (.refl _) rfl
end Go.Proofs.YtbhegmcbpolemaaDoor

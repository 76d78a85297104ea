/- Fractions in lowest terms, by the program. -/
import Derived.Test.YtbhegmcbpolemaaDoorQJr4
set_option linter.unusedVariables false
set_option linter.unnecessarySimpa false
set_option linter.unusedSimpArgs false
namespace Go.Proofs.YtbhegmcbpolemaaDoor
open Go Go.Av
attribute [local irreducible] E2 B3 G0 F3 DQ H4 H7 St.le B7 E1
set_option maxRecDepth 100000
abbrev Po (p:Int × Int):AV:=.agg [.i p.1, .i p.2]
def Gq:Option (Int × Int) → AV
 | some p=>.tup [Po p, .i 0]
 | none=>.tup [Po (0,0), .i 14]
set_option maxHeartbeats 16000000 in
theorem r8 (num den:Int) (hn:-170141183460469231731687303715884105728 < num ∧ num < 170141183460469231731687303715884105728) (hd:-170141183460469231731687303715884105728 < den ∧ den < 170141183460469231731687303715884105728) (h0d:den ≠ 0):B7 Tryd.prog 37 [I4 num,I4 den] (Gq (K5 num den)):=by
 rw [FE h0d]
 have e1:=T3 den (by omega)
 have e2:=R1 num
 have e3:=R1 den
 obtain ⟨N,hN,hN2⟩:∃ N,(if den < 0 then -num else num) = N ∧ N.natAbs = num.natAbs:=⟨_,rfl,by split <;> omega⟩
 obtain ⟨D,hD,hD2⟩:∃ D:Int,(if den < 0 then -den else den) = D ∧ D = (den.natAbs:Nat):=⟨_,rfl,by split <;> omega⟩
 have c1:=Kv N (by omega)
 rw [hN2] at c1
 rw [hN]
 have c2:=Hc den.natAbs num.natAbs (by omega) (by omega) (by omega)
 have hg0:0 < Nat.gcd den.natAbs num.natAbs:=Nat.gcd_pos_of_pos_left _ (by omega)
 have hgl:Nat.gcd den.natAbs num.natAbs ≤ den.natAbs:=Nat.gcd_le_left _ (by omega)
 have c3:=FK num.natAbs (Nat.gcd den.natAbs num.natAbs) (by omega) hg0 (by omega)
 have c4:=FK den.natAbs (Nat.gcd den.natAbs num.natAbs) (by omega) hg0 (by omega)
 have c5:=T3 N (by omega)
 have q1:num.natAbs / Nat.gcd den.natAbs num.natAbs ≤ 1152921504606846976 → FJ num.natAbs (Nat.gcd den.natAbs num.natAbs) = num.natAbs / Nat.gcd den.natAbs num.natAbs:=fun h=>by
  unfold FJ
  rw [if_neg fun h2=>by have:=Cs hg0 (by omega) (by omega) h2;omega]
 have q2:den.natAbs / Nat.gcd den.natAbs num.natAbs ≤ 1152921504606846976 → FJ den.natAbs (Nat.gcd den.natAbs num.natAbs) = den.natAbs / Nat.gcd den.natAbs num.natAbs:=fun h=>by
  unfold FJ
  rw [if_neg fun h2=>by have:=Cs hg0 (by omega) (by omega) h2;omega]
 have hsg:-1 ≤ N.sign ∧ N.sign ≤ 1:=by
  rcases Int.lt_trichotomy N 0 with h | h | h
  ·rw [Int.sign_eq_neg_one_of_neg h];decide
  ·rw [h];decide
  ·rw [Int.sign_eq_one_of_pos h];decide
 generalize Nat.gcd den.natAbs num.natAbs = g at *
 generalize num.natAbs / g = x at *
 generalize den.natAbs / g = y at *
 generalize FJ num.natAbs g = x2 at *
 generalize FJ den.natAbs g = y2 at *
 generalize N.sign = sg at *
 have hfin:(if x ≤ 1152921504606846976 ∧ y ≤ 1152921504606846976 then some (sg * (x:Int),((y:Nat):Int)) else none) = if x ≤ 1152921504606846976 ∧ y ≤ 1152921504606846976 then some ((x2:Int) * sg,((y2:Nat):Int)) else none:=by
  by_cases h:x ≤ 1152921504606846976 ∧ y ≤ 1152921504606846976
  ·rw [if_pos h,if_pos h,q1 h.1,q2 h.2,Int.mul_comm]
  ·rw [if_neg h,if_neg h]
 rw [hfin]
 have hmul:x ≤ 1152921504606846976 → -1152921504606846976 ≤ (x2:Int) * sg ∧ (x2:Int) * sg ≤ 1152921504606846976:=fun h=>by
  have:=q1 h
  rcases (show sg = -1 ∨ sg = 0 ∨ sg = 1 by omega) with rfl | rfl | rfl <;> omega
 by_cases hneg:den < 0
 ·rw [if_pos hneg] at hN hD
  subst hN
  rw [← hD] at hD2
  rw [hD2] at e3
  rw [Int.sign_eq_neg_one_of_neg hneg] at e1
  by_cases hok:x ≤ 1152921504606846976 ∧ y ≤ 1152921504606846976
  ·rw [if_pos hok]
   rw [decide_eq_true hok.1] at c3
   rw [decide_eq_true hok.2] at c4
   have hmm:=hmul hok.1
   clear hmul hfin q1 q2
   refine F0 Tryd.func37 48 fun hrd E h0=>?_
   clear hrd
   repeat' ((first | refine A8 e1 ?_ | refine A8 e2 ?_ | refine A8 e3 ?_ | refine A8 c1 ?_ | refine A8 c2 ?_ | refine A8 c3 ?_ | refine A8 c4 ?_ | refine A8 c5 ?_ | (refine J3 (id:=2) ⟨[(2, .ref 0 0),(3, .ref 1 0),(4, .ref 2 0),(5, .i 0)],3,[(0,some (.box (G1 (-num)))),(1,some (.box (G1 ((den.natAbs:Nat):Int)))),(2,some (.box [.i 0, .i 0]))]⟩ ?_ ?_) | (refine J3 (id:=3) ⟨[(2, .ref 0 0),(3, .ref 1 0),(4, .ref 2 0),(5, .i 0),(6, .ref 3 0)],4,[(0,some (.box (G1 (-num)))),(1,some (.box (G1 ((den.natAbs:Nat):Int)))),(2,some (.box [.i 0, .i 0])),(3,some (.box (G1 ((g:Nat):Int))))]⟩ ?_ ?_) |refine A5 ?_|refine S1 ?_|refine Z1 ?_|refine Z2 ?_|(refine And.intro ?_ ?_<;>intro h<;>try first|(exfalso;omega)|exact absurd rfl h)|refine Z3 ?_|refine Z4 ?_|intro el hel hbB|intro el hel|intro ex|refine Z5 ?_|(refine B2 ?_ ?_;exact ⟨by kernel_rfl,by decide⟩)|refine B0 ?_ ?_|exact A9|refine A7 ?_ ?_|exact A6|(refine A3 ?_ ?_ ?_;kernel_rfl;kernel_rfl)) <;> (try (conv=>whnf)))
   all_goals first
    | (exfalso;omega)
    | exact B4 h0 rfl ⟨rfl,rfl,rfl,rfl,trivial⟩ ⟨rfl,rfl,rfl,trivial⟩ rfl rfl rfl
    | exact B4 h0 rfl ⟨rfl,rfl,rfl,rfl,rfl,trivial⟩ ⟨rfl,rfl,rfl,rfl,trivial⟩ rfl rfl rfl
    | exact K3 rfl rfl rfl (.refl _) rfl (.refl _) rfl
  ·rw [if_neg hok]
   clear hmul hfin q1 q2
   refine F0 Tryd.func37 48 fun hrd E h0=>?_
   clear hrd
   repeat' ((first | refine A8 e1 ?_ | refine A8 e2 ?_ | refine A8 e3 ?_ | refine A8 c1 ?_ | refine A8 c2 ?_ | refine A8 c3 ?_ | refine A8 c4 ?_ | refine A8 c5 ?_ | (refine J3 (id:=2) ⟨[(2, .ref 0 0),(3, .ref 1 0),(4, .ref 2 0),(5, .i 0)],3,[(0,some (.box (G1 (-num)))),(1,some (.box (G1 ((den.natAbs:Nat):Int)))),(2,some (.box [.i 0, .i 0]))]⟩ ?_ ?_) | (refine J3 (id:=3) ⟨[(2, .ref 0 0),(3, .ref 1 0),(4, .ref 2 0),(5, .i 0),(6, .ref 3 0)],4,[(0,some (.box (G1 (-num)))),(1,some (.box (G1 ((den.natAbs:Nat):Int)))),(2,some (.box [.i 0, .i 0])),(3,some (.box (G1 ((g:Nat):Int))))]⟩ ?_ ?_) |refine A5 ?_|refine S1 ?_|refine Z1 ?_|refine Z2 ?_|(refine And.intro ?_ ?_<;>intro h<;>try first|(exfalso;omega)|exact absurd rfl h)|refine Z3 ?_|refine Z4 ?_|intro el hel hbB|intro el hel|intro ex|refine Z5 ?_|(refine B2 ?_ ?_;exact ⟨by kernel_rfl,by decide⟩)|refine B0 ?_ ?_|exact A9|refine A7 ?_ ?_|exact A6|(refine A3 ?_ ?_ ?_;kernel_rfl;kernel_rfl)) <;> (try (conv=>whnf)))
   all_goals first
    | (exfalso;omega)
    | exact B4 h0 rfl ⟨rfl,rfl,rfl,rfl,trivial⟩ ⟨rfl,rfl,rfl,trivial⟩ rfl rfl rfl
    | exact B4 h0 rfl ⟨rfl,rfl,rfl,rfl,rfl,trivial⟩ ⟨rfl,rfl,rfl,rfl,trivial⟩ rfl rfl rfl
    | exact K3 rfl rfl rfl (.refl _) rfl (.refl _) rfl
 ·rw [if_neg hneg] at hN hD
  subst hN
  have e0:I4 den = I4 ((den.natAbs:Nat):Int):=congrArg I4 (by omega)
  rw [Int.sign_eq_one_of_pos (by omega)] at e1
  rw [e0] at e1 ⊢
  by_cases hok:x ≤ 1152921504606846976 ∧ y ≤ 1152921504606846976
  ·rw [if_pos hok]
   rw [decide_eq_true hok.1] at c3
   rw [decide_eq_true hok.2] at c4
   have hmm:=hmul hok.1
   clear hmul hfin q1 q2
   refine F0 Tryd.func37 48 fun hrd E h0=>?_
   clear hrd
   repeat' ((first | refine A8 e1 ?_ | refine A8 e2 ?_ | refine A8 e3 ?_ | refine A8 c1 ?_ | refine A8 c2 ?_ | refine A8 c3 ?_ | refine A8 c4 ?_ | refine A8 c5 ?_ | (refine J3 (id:=3) ⟨[(2, .ref 0 0),(3, .ref 1 0),(4, .ref 2 0),(5, .i 0),(6, .ref 3 0)],4,[(0,some (.box (G1 num))),(1,some (.box (G1 ((den.natAbs:Nat):Int)))),(2,some (.box [.i 0, .i 0])),(3,some (.box (G1 ((g:Nat):Int))))]⟩ ?_ ?_) |refine A5 ?_|refine S1 ?_|refine Z1 ?_|refine Z2 ?_|(refine And.intro ?_ ?_<;>intro h<;>try first|(exfalso;omega)|exact absurd rfl h)|refine Z3 ?_|refine Z4 ?_|intro el hel hbB|intro el hel|intro ex|refine Z5 ?_|(refine B2 ?_ ?_;exact ⟨by kernel_rfl,by decide⟩)|refine B0 ?_ ?_|exact A9|refine A7 ?_ ?_|exact A6|(refine A3 ?_ ?_ ?_;kernel_rfl;kernel_rfl)) <;> (try (conv=>whnf)))
   all_goals first
    | (exfalso;omega)
    | exact B4 h0 rfl ⟨rfl,rfl,rfl,rfl,trivial⟩ ⟨rfl,rfl,rfl,trivial⟩ rfl rfl rfl
    | exact B4 h0 rfl ⟨rfl,rfl,rfl,rfl,rfl,trivial⟩ ⟨rfl,rfl,rfl,rfl,trivial⟩ rfl rfl rfl
    | exact K3 rfl rfl rfl (.refl _) rfl (.refl _) rfl
  ·rw [if_neg hok]
   clear hmul hfin q1 q2
   refine F0 Tryd.func37 48 fun hrd E h0=>?_
   clear hrd
   repeat' ((first | refine A8 e1 ?_ | refine A8 e2 ?_ | refine A8 e3 ?_ | refine A8 c1 ?_ | refine A8 c2 ?_ | refine A8 c3 ?_ | refine A8 c4 ?_ | refine A8 c5 ?_ | (refine J3 (id:=3) ⟨[(2, .ref 0 0),(3, .ref 1 0),(4, .ref 2 0),(5, .i 0),(6, .ref 3 0)],4,[(0,some (.box (G1 num))),(1,some (.box (G1 ((den.natAbs:Nat):Int)))),(2,some (.box [.i 0, .i 0])),(3,some (.box (G1 ((g:Nat):Int))))]⟩ ?_ ?_) |refine A5 ?_|refine S1 ?_|refine Z1 ?_|refine Z2 ?_|(refine And.intro ?_ ?_<;>intro h<;>try first|(exfalso;omega)|exact absurd rfl h)|refine Z3 ?_|refine Z4 ?_|intro el hel hbB|intro el hel|intro ex|refine Z5 ?_|(refine B2 ?_ ?_;exact ⟨by kernel_rfl,by decide⟩)|refine B0 ?_ ?_|exact A9|refine A7 ?_ ?_|exact A6|(refine A3 ?_ ?_ ?_;kernel_rfl;kernel_rfl)) <;> (try (conv=>whnf)))
   all_goals first
    | (exfalso;omega)
    | exact B4 h0 rfl ⟨rfl,rfl,rfl,rfl,trivial⟩ ⟨rfl,rfl,rfl,trivial⟩ rfl rfl rfl
    | exact B4 h0 rfl ⟨rfl,rfl,rfl,rfl,rfl,trivial⟩ ⟨rfl,rfl,rfl,rfl,trivial⟩ rfl rfl rfl
    | exact K3 rfl rfl rfl (.refl _) rfl (.refl _) rfl
set_option maxHeartbeats 4000000 in
theorem OY (num den:Int) (hn:-9223372036854775808 ≤ num ∧ num ≤ 9223372036854775807) (hd:1 ≤ den ∧ den ≤ 9223372036854775807):B7 Tryd.prog 49 [.i num, .i den] (Gq (K5 num den)):=by
 have h1:=Y2 num hn.1 hn.2
 have h2:=Y2 den (by omega) hd.2
 have h3:=r8 num den (by omega) (by omega) (by omega)
 cases hr:K5 num den with
 | none =>
   rw [hr] at h3
   refine F0 Tryd.func49 16 fun hrd E h0=>?_
   clear hrd
   repeat' ((first | refine A8 h1 ?_ | refine A8 h2 ?_ | refine A8 h3 ?_ |refine A5 ?_|refine S1 ?_|refine Z1 ?_|refine Z2 ?_|(refine And.intro ?_ ?_<;>intro h<;>try first|(exfalso;omega)|exact absurd rfl h)|refine Z3 ?_|refine Z4 ?_|intro el hel hbB|intro el hel|intro ex|refine Z5 ?_|(refine B2 ?_ ?_;exact ⟨by kernel_rfl,by decide⟩)|refine B0 ?_ ?_|exact A9|refine A7 ?_ ?_|exact A6|(refine A3 ?_ ?_ ?_;kernel_rfl;kernel_rfl)) <;> (try (conv=>whnf)))
   all_goals first
    | (exfalso;omega)
    | exact K3 rfl rfl rfl (.refl _) rfl (.refl _) rfl
 | some p =>
   rw [hr] at h3
   obtain ⟨n,d⟩:=p
   refine F0 Tryd.func49 16 fun hrd E h0=>?_
   clear hrd
   repeat' ((first | refine A8 h1 ?_ | refine A8 h2 ?_ | refine A8 h3 ?_ |refine A5 ?_|refine S1 ?_|refine Z1 ?_|refine Z2 ?_|(refine And.intro ?_ ?_<;>intro h<;>try first|(exfalso;omega)|exact absurd rfl h)|refine Z3 ?_|refine Z4 ?_|intro el hel hbB|intro el hel|intro ex|refine Z5 ?_|(refine B2 ?_ ?_;exact ⟨by kernel_rfl,by decide⟩)|refine B0 ?_ ?_|exact A9|refine A7 ?_ ?_|exact A6|(refine A3 ?_ ?_ ?_;kernel_rfl;kernel_rfl)) <;> (try (conv=>whnf)))
   all_goals first
    | (exfalso;omega)
    | exact K3 rfl rfl rfl (.refl _) rfl (.refl _) rfl
end Go.Proofs.YtbhegmcbpolemaaDoor

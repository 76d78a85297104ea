/- Fractions in lowest terms, by the program. -/
import Derived.Test.YtbhegmcbpolemaaDoorTJr4
set_option linter.unusedVariables false
set_option linter.unnecessarySimpa false
set_option linter.unusedSimpArgs false
namespace Go.Proofs.YtbhegmcbpolemaaDoor
open Go Go.Av
attribute [local irreducible] E4 B6 F1 E7 DQ F6 F9 St.le B5 D4
set_option maxRecDepth 100000
abbrev Nv (p:Int × Int):AV:=.agg [.i p.1, .i p.2]
def CD:Option (Int × Int) → AV
 | some p=>.tup [Nv p, .i 0]
 | none=>.tup [Nv (0,0), .i 14]
set_option maxHeartbeats 16000000 in
theorem u3 (num den:Int) (hn:-170141183460469231731687303715884105728 < num ∧ num < 170141183460469231731687303715884105728) (hd:-170141183460469231731687303715884105728 < den ∧ den < 170141183460469231731687303715884105728) (h0d:den ≠ 0):B5 Tryd.prog 37 [D6 num,D6 den] (CD (M4 num den)):=by
 rw [FZ h0d]
 have e1:=U1 den (by omega)
 have e2:=S3 num
 have e3:=S3 den
 obtain ⟨N,hN,hN2⟩:∃ N,(if den < 0 then -num else num) = N ∧ N.natAbs = num.natAbs:=⟨_,rfl,by split <;> omega⟩
 obtain ⟨D,hD,hD2⟩:∃ D:Int,(if den < 0 then -den else den) = D ∧ D = (den.natAbs:Nat):=⟨_,rfl,by split <;> omega⟩
 have c1:=LC N (by omega)
 rw [hN2] at c1
 rw [hN]
 have c2:=IB den.natAbs num.natAbs (by omega) (by omega) (by omega)
 have hg0:0 < Nat.gcd den.natAbs num.natAbs:=Nat.gcd_pos_of_pos_left _ (by omega)
 have hgl:Nat.gcd den.natAbs num.natAbs ≤ den.natAbs:=Nat.gcd_le_left _ (by omega)
 have c3:=Fj num.natAbs (Nat.gcd den.natAbs num.natAbs) (by omega) hg0 (by omega)
 have c4:=Fj den.natAbs (Nat.gcd den.natAbs num.natAbs) (by omega) hg0 (by omega)
 have c5:=U1 N (by omega)
 have q1:num.natAbs / Nat.gcd den.natAbs num.natAbs ≤ 1152921504606846976 → Fi num.natAbs (Nat.gcd den.natAbs num.natAbs) = num.natAbs / Nat.gcd den.natAbs num.natAbs:=fun h=>by
  unfold Fi
  rw [if_neg fun h2=>by have:=DN hg0 (by omega) (by omega) h2;omega]
 have q2:den.natAbs / Nat.gcd den.natAbs num.natAbs ≤ 1152921504606846976 → Fi den.natAbs (Nat.gcd den.natAbs num.natAbs) = den.natAbs / Nat.gcd den.natAbs num.natAbs:=fun h=>by
  unfold Fi
  rw [if_neg fun h2=>by have:=DN hg0 (by omega) (by omega) h2;omega]
 have hsg:-1 ≤ N.sign ∧ N.sign ≤ 1:=by
  rcases Int.lt_trichotomy N 0 with h | h | h
  ·rw [Int.sign_eq_neg_one_of_neg h];decide
  ·rw [h];decide
  ·rw [Int.sign_eq_one_of_pos h];decide
 generalize Nat.gcd den.natAbs num.natAbs = g at *
 generalize num.natAbs / g = x at *
 generalize den.natAbs / g = y at *
 generalize Fi num.natAbs g = x2 at *
 generalize Fi den.natAbs g = y2 at *
 generalize N.sign = sg at *
 have hfin:(if x ≤ 1152921504606846976 ∧ y ≤ 1152921504606846976 then some (sg * (x:Int),((y:Nat):Int)) else none) = if x ≤ 1152921504606846976 ∧ y ≤ 1152921504606846976 then some ((x2:Int) * sg,((y2:Nat):Int)) else none:=by
  by_cases h:x ≤ 1152921504606846976 ∧ y ≤ 1152921504606846976
  ·rw [if_pos h,if_pos h,q1 h.1,q2 h.2,Int.mul_comm]
  ·rw [if_neg h,if_neg h]
 rw [hfin]
 have hmul:x ≤ 1152921504606846976 → -1152921504606846976 ≤ (x2:Int) * sg ∧ (x2:Int) * sg ≤ 1152921504606846976:=fun h=>by
  have:=q1 h
  rcases (show sg = -1 ∨ sg = 0 ∨ sg = 1 by omega) with rfl | rfl | rfl <;> omega
 by_cases hneg:den < 0
 ·rw [if_pos hneg] at hN hD
  subst hN
  rw [← hD] at hD2
  rw [hD2] at e3
  rw [Int.sign_eq_neg_one_of_neg hneg] at e1
  by_cases hok:x ≤ 1152921504606846976 ∧ y ≤ 1152921504606846976
  ·rw [if_pos hok]
   rw [decide_eq_true hok.1] at c3
   rw [decide_eq_true hok.2] at c4
   have hmm:=hmul hok.1
   clear hmul hfin q1 q2
   refine D1 Tryd.func37 48 fun hrd E h0=>?_
   clear hrd
   repeat' ((first | refine A4 e1 ?_ | refine A4 e2 ?_ | refine A4 e3 ?_ | refine A4 c1 ?_ | refine A4 c2 ?_ | refine A4 c3 ?_ | refine A4 c4 ?_ | refine A4 c5 ?_ | (refine F5 (id:=2) ⟨[(2, .ref 0 0),(3, .ref 1 0),(4, .ref 2 0),(5, .i 0)],3,[(0,some (.box (D3 (-num)))),(1,some (.box (D3 ((den.natAbs:Nat):Int)))),(2,some (.box [.i 0, .i 0]))]⟩ ?_ ?_) | (refine F5 (id:=3) ⟨[(2, .ref 0 0),(3, .ref 1 0),(4, .ref 2 0),(5, .i 0),(6, .ref 3 0)],4,[(0,some (.box (D3 (-num)))),(1,some (.box (D3 ((den.natAbs:Nat):Int)))),(2,some (.box [.i 0, .i 0])),(3,some (.box (D3 ((g:Nat):Int))))]⟩ ?_ ?_) |refine A5 ?_|refine S1 ?_|refine Z1 ?_|refine Z2 ?_|(refine And.intro ?_ ?_<;>intro h<;>try first|(exfalso;omega)|exact absurd rfl h)|refine Z3 ?_|refine Z4 ?_|intro el hel hbB|intro el hel|intro ex|refine Z5 ?_|(refine B0 ?_ ?_;exact ⟨by kernel_rfl,by decide⟩)|refine A9 ?_ ?_|exact A8|refine A7 ?_ ?_|exact A6|(refine A3 ?_ ?_ ?_;kernel_rfl;kernel_rfl)) <;> (try (conv=>whnf)))
   all_goals first
    | (exfalso;omega)
    | exact B4 h0 rfl ⟨rfl,rfl,rfl,rfl,trivial⟩ ⟨rfl,rfl,rfl,trivial⟩ rfl rfl rfl
    | exact B4 h0 rfl ⟨rfl,rfl,rfl,rfl,rfl,trivial⟩ ⟨rfl,rfl,rfl,rfl,trivial⟩ rfl rfl rfl
    | exact E6 rfl rfl rfl (.refl _) rfl (.refl _) rfl
  ·rw [if_neg hok]
   clear hmul hfin q1 q2
   refine D1 Tryd.func37 48 fun hrd E h0=>?_
   clear hrd
   repeat' ((first | refine A4 e1 ?_ | refine A4 e2 ?_ | refine A4 e3 ?_ | refine A4 c1 ?_ | refine A4 c2 ?_ | refine A4 c3 ?_ | refine A4 c4 ?_ | refine A4 c5 ?_ | (refine F5 (id:=2) ⟨[(2, .ref 0 0),(3, .ref 1 0),(4, .ref 2 0),(5, .i 0)],3,[(0,some (.box (D3 (-num)))),(1,some (.box (D3 ((den.natAbs:Nat):Int)))),(2,some (.box [.i 0, .i 0]))]⟩ ?_ ?_) | (refine F5 (id:=3) ⟨[(2, .ref 0 0),(3, .ref 1 0),(4, .ref 2 0),(5, .i 0),(6, .ref 3 0)],4,[(0,some (.box (D3 (-num)))),(1,some (.box (D3 ((den.natAbs:Nat):Int)))),(2,some (.box [.i 0, .i 0])),(3,some (.box (D3 ((g:Nat):Int))))]⟩ ?_ ?_) |refine A5 ?_|refine S1 ?_|refine Z1 ?_|refine Z2 ?_|(refine And.intro ?_ ?_<;>intro h<;>try first|(exfalso;omega)|exact absurd rfl h)|refine Z3 ?_|refine Z4 ?_|intro el hel hbB|intro el hel|intro ex|refine Z5 ?_|(refine B0 ?_ ?_;exact ⟨by kernel_rfl,by decide⟩)|refine A9 ?_ ?_|exact A8|refine A7 ?_ ?_|exact A6|(refine A3 ?_ ?_ ?_;kernel_rfl;kernel_rfl)) <;> (try (conv=>whnf)))
   all_goals first
    | (exfalso;omega)
    | exact B4 h0 rfl ⟨rfl,rfl,rfl,rfl,trivial⟩ ⟨rfl,rfl,rfl,trivial⟩ rfl rfl rfl
    | exact B4 h0 rfl ⟨rfl,rfl,rfl,rfl,rfl,trivial⟩ ⟨rfl,rfl,rfl,rfl,trivial⟩ rfl rfl rfl
    | exact E6 rfl rfl rfl (.refl _) rfl (.refl _) rfl
 ·rw [if_neg hneg] at hN hD
  subst hN
  have e0:D6 den = D6 ((den.natAbs:Nat):Int):=congrArg D6 (by omega)
  rw [Int.sign_eq_one_of_pos (by omega)] at e1
  rw [e0] at e1 ⊢
  by_cases hok:x ≤ 1152921504606846976 ∧ y ≤ 1152921504606846976
  ·rw [if_pos hok]
   rw [decide_eq_true hok.1] at c3
   rw [decide_eq_true hok.2] at c4
   have hmm:=hmul hok.1
   clear hmul hfin q1 q2
   refine D1 Tryd.func37 48 fun hrd E h0=>?_
   clear hrd
   repeat' ((first | refine A4 e1 ?_ | refine A4 e2 ?_ | refine A4 e3 ?_ | refine A4 c1 ?_ | refine A4 c2 ?_ | refine A4 c3 ?_ | refine A4 c4 ?_ | refine A4 c5 ?_ | (refine F5 (id:=3) ⟨[(2, .ref 0 0),(3, .ref 1 0),(4, .ref 2 0),(5, .i 0),(6, .ref 3 0)],4,[(0,some (.box (D3 num))),(1,some (.box (D3 ((den.natAbs:Nat):Int)))),(2,some (.box [.i 0, .i 0])),(3,some (.box (D3 ((g:Nat):Int))))]⟩ ?_ ?_) |refine A5 ?_|refine S1 ?_|refine Z1 ?_|refine Z2 ?_|(refine And.intro ?_ ?_<;>intro h<;>try first|(exfalso;omega)|exact absurd rfl h)|refine Z3 ?_|refine Z4 ?_|intro el hel hbB|intro el hel|intro ex|refine Z5 ?_|(refine B0 ?_ ?_;exact ⟨by kernel_rfl,by decide⟩)|refine A9 ?_ ?_|exact A8|refine A7 ?_ ?_|exact A6|(refine A3 ?_ ?_ ?_;kernel_rfl;kernel_rfl)) <;> (try (conv=>whnf)))
   all_goals first
    | (exfalso;omega)
    | exact B4 h0 rfl ⟨rfl,rfl,rfl,rfl,trivial⟩ ⟨rfl,rfl,rfl,trivial⟩ rfl rfl rfl
    | exact B4 h0 rfl ⟨rfl,rfl,rfl,rfl,rfl,trivial⟩ ⟨rfl,rfl,rfl,rfl,trivial⟩ rfl rfl rfl
    | exact E6 rfl rfl rfl (.refl _) rfl (.refl _) rfl
  ·rw [if_neg hok]
   clear hmul hfin q1 q2
   refine D1 Tryd.func37 48 fun hrd E h0=>?_
   clear hrd
   repeat' ((first | refine A4 e1 ?_ | refine A4 e2 ?_ | refine A4 e3 ?_ | refine A4 c1 ?_ | refine A4 c2 ?_ | refine A4 c3 ?_ | refine A4 c4 ?_ | refine A4 c5 ?_ | (refine F5 (id:=3) ⟨[(2, .ref 0 0),(3, .ref 1 0),(4, .ref 2 0),(5, .i 0),(6, .ref 3 0)],4,[(0,some (.box (D3 num))),(1,some (.box (D3 ((den.natAbs:Nat):Int)))),(2,some (.box [.i 0, .i 0])),(3,some (.box (D3 ((g:Nat):Int))))]⟩ ?_ ?_) |refine A5 ?_|refine S1 ?_|refine Z1 ?_|refine Z2 ?_|(refine And.intro ?_ ?_<;>intro h<;>try first|(exfalso;omega)|exact absurd rfl h)|refine Z3 ?_|refine Z4 ?_|intro el hel hbB|intro el hel|intro ex|refine Z5 ?_|(refine B0 ?_ ?_;exact ⟨by kernel_rfl,by decide⟩)|refine A9 ?_ ?_|exact A8|refine A7 ?_ ?_|exact A6|(refine A3 ?_ ?_ ?_;kernel_rfl;kernel_rfl)) <;> (try (conv=>whnf)))
   all_goals first
    | (exfalso;omega)
    | exact B4 h0 rfl ⟨rfl,rfl,rfl,rfl,trivial⟩ ⟨rfl,rfl,rfl,trivial⟩ rfl rfl rfl
    | exact B4 h0 rfl ⟨rfl,rfl,rfl,rfl,rfl,trivial⟩ ⟨rfl,rfl,rfl,rfl,trivial⟩ rfl rfl rfl
    | exact E6 rfl rfl rfl (.refl _) rfl (.refl _) rfl
set_option maxHeartbeats 4000000 in
theorem On (num den:Int) (hn:-9223372036854775808 ≤ num ∧ num ≤ 9223372036854775807) (hd:1 ≤ den ∧ den ≤ 9223372036854775807):B5 Tryd.prog 49 [.i num, .i den] (CD (M4 num den)):=by
 have h1:=Y5 num hn.1 hn.2
 have h2:=Y5 den (by omega) hd.2
 have h3:=u3 num den (by omega) (by omega) (by omega)
 cases hr:M4 num den with
 | none =>
   rw [hr] at h3
   refine D1 Tryd.func49 16 fun hrd E h0=>?_
   clear hrd
   repeat' ((first | refine A4 h1 ?_ | refine A4 h2 ?_ | refine A4 h3 ?_ |refine A5 ?_|refine S1 ?_|refine Z1 ?_|refine Z2 ?_|(refine And.intro ?_ ?_<;>intro h<;>try first|(exfalso;omega)|exact absurd rfl h)|refine Z3 ?_|refine Z4 ?_|intro el hel hbB|intro el hel|intro ex|refine Z5 ?_|(refine B0 ?_ ?_;exact ⟨by kernel_rfl,by decide⟩)|refine A9 ?_ ?_|exact A8|refine A7 ?_ ?_|exact A6|(refine A3 ?_ ?_ ?_;kernel_rfl;kernel_rfl)) <;> (try (conv=>whnf)))
   all_goals first
    | (exfalso;omega)
    | exact E6 rfl rfl rfl (.refl _) rfl (.refl _) rfl
 | some p =>
   rw [hr] at h3
   obtain ⟨n,d⟩:=p
   refine D1 Tryd.func49 16 fun hrd E h0=>?_
   clear hrd
   repeat' ((first | refine A4 h1 ?_ | refine A4 h2 ?_ | refine A4 h3 ?_ |refine A5 ?_|refine S1 ?_|refine Z1 ?_|refine Z2 ?_|(refine And.intro ?_ ?_<;>intro h<;>try first|(exfalso;omega)|exact absurd rfl h)|refine Z3 ?_|refine Z4 ?_|intro el hel hbB|intro el hel|intro ex|refine Z5 ?_|(refine B0 ?_ ?_;exact ⟨by kernel_rfl,by decide⟩)|refine A9 ?_ ?_|exact A8|refine A7 ?_ ?_|exact A6|(refine A3 ?_ ?_ ?_;kernel_rfl;kernel_rfl)) <;> (try (conv=>whnf)))
   all_goals first
    | (exfalso;omega)
    | exact E6 rfl rfl rfl (.refl _) rfl (.refl _) rfl
end Go.Proofs.YtbhegmcbpolemaaDoor

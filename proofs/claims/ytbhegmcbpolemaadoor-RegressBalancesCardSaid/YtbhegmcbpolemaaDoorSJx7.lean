/- Fractions multiplied and compared, by the program. -/
import Derived.Test.YtbhegmcbpolemaaDoorSJx2
set_option linter.unusedVariables false
set_option linter.unnecessarySimpa false
set_option linter.unusedSimpArgs false
namespace Go.Proofs.YtbhegmcbpolemaaDoor
open Go Go.Av
attribute [local irreducible] E3 B5 F2 F0 DQ F5 G8 St.le B6 D3
set_option maxRecDepth 100000
set_option maxHeartbeats 4000000 in
theorem Hj (p q:Int × Int):B6 Tryd.prog 18 [a8 p,a8 q] (Ll (AL p q)):=by
 have v1:=V3 p
 have v2:=V3 q
 unfold AL
 by_cases hp:okF p
 rotate_left
 ·rw [decide_eq_false hp] at v1
  rw [if_neg fun h=>hp h.1]
  obtain ⟨a,b⟩:=p
  obtain ⟨c,d⟩:=q
  refine E1 Tryd.func18 32 fun hrd E h0=>?_
  clear hrd
  repeat' ((first | refine A4 v1 ?_ |refine A6 ?_|refine S1 ?_|refine Z1 ?_|refine Z2 ?_|(refine And.intro ?_ ?_<;>intro h<;>try first|(exfalso;omega)|exact absurd rfl h)|refine Z3 ?_|refine Z4 ?_|intro el hel hbB|intro el hel|intro ex|refine Z5 ?_|(refine B2 ?_ ?_;exact ⟨by kernel_rfl,by decide⟩)|refine B0 ?_ ?_|exact A9|refine A8 ?_ ?_|exact A7|(refine A3 ?_ ?_ ?_;kernel_rfl;kernel_rfl)) <;> (try (conv=>whnf)))
  all_goals first
   | exact F9 rfl rfl rfl (.refl _) rfl (.refl _) rfl
 rw [decide_eq_true hp] at v1
 by_cases hq:okF q
 rotate_left
 ·rw [decide_eq_false hq] at v2
  rw [if_neg fun h=>hq h.2]
  obtain ⟨a,b⟩:=p
  obtain ⟨c,d⟩:=q
  refine E1 Tryd.func18 32 fun hrd E h0=>?_
  clear hrd
  repeat' ((first | refine A4 v1 ?_ | refine A4 v2 ?_ |refine A6 ?_|refine S1 ?_|refine Z1 ?_|refine Z2 ?_|(refine And.intro ?_ ?_<;>intro h<;>try first|(exfalso;omega)|exact absurd rfl h)|refine Z3 ?_|refine Z4 ?_|intro el hel hbB|intro el hel|intro ex|refine Z5 ?_|(refine B2 ?_ ?_;exact ⟨by kernel_rfl,by decide⟩)|refine B0 ?_ ?_|exact A9|refine A8 ?_ ?_|exact A7|(refine A3 ?_ ?_ ?_;kernel_rfl;kernel_rfl)) <;> (try (conv=>whnf)))
  all_goals first
   | exact F9 rfl rfl rfl (.refl _) rfl (.refl _) rfl
 rw [decide_eq_true hq] at v2
 rw [if_pos ⟨hp,hq⟩]
 obtain ⟨bp1,bp2⟩:=Ao hp
 obtain ⟨bq1,bq2⟩:=Ao hq
 obtain ⟨a,b⟩:=p
 obtain ⟨c,d⟩:=q
 dsimp only at *
 have m1:=k0 (A:=1152921504606846976) (B:=1152921504606846976) bp2 bq2
 have m3:=k0 (A:=1152921504606846976) (B:=1152921504606846976) (a:=b) (b:=d) (by omega) (by omega)
 have m5:b * d ≠ 0:=Int.mul_ne_zero (by omega) (by omega)
 have c1:=H8 a (by omega) (by omega)
 have c2:=H8 c (by omega) (by omega)
 have c3:=H8 b (by omega) (by omega)
 have c4:=H8 d (by omega) (by omega)
 have c5:=V2 a c
 have c7:=V2 b d
 have c6:=U5 (a * c) (b * d) (by omega) (by omega) m5
 rw [JA] at c6
 generalize Y9 (J8 (a * c) (b * d)) = R at *
 obtain ⟨e,n1,d1⟩:=R
 generalize a * c = x at *
 generalize b * d = w at *
 clear hp hq
 refine E1 Tryd.func18 32 fun hrd E h0=>?_
 clear hrd
 repeat' ((first | refine A4 v1 ?_ | refine A4 v2 ?_ | refine A4 c1 ?_ | refine A4 c2 ?_ | refine A4 c3 ?_ | refine A4 c4 ?_ | refine A4 c5 ?_ | refine A4 c6 ?_ | refine A4 c7 ?_ | (refine S7 3 ?_;refine S8 (id:=3) (σ':=⟨[(2, .iptr [.i a, .i b]),(3, .iptr [.i c, .i d]),(4, .ref 2 0),(5, .i 0)],3,[(2,some (.box [.i 0, .i 0]))]⟩) (B3 h0 rfl ⟨rfl,rfl,rfl,rfl,trivial⟩ ⟨rfl,trivial⟩ rfl rfl rfl) ?_;refine F6 (id:=3) ⟨[(4, .ref 2 0),(5, .i e)],3,[(2,some (.box [.i n1, .i d1]))]⟩ ?_ ?_) |refine A6 ?_|refine S1 ?_|refine Z1 ?_|refine Z2 ?_|(refine And.intro ?_ ?_<;>intro h<;>try first|(exfalso;omega)|exact absurd rfl h)|refine Z3 ?_|refine Z4 ?_|intro el hel hbB|intro el hel|intro ex|refine Z5 ?_|(refine B2 ?_ ?_;exact ⟨by kernel_rfl,by decide⟩)|refine B0 ?_ ?_|exact A9|refine A8 ?_ ?_|exact A7|(refine A3 ?_ ?_ ?_;kernel_rfl;kernel_rfl)) <;> (try (conv=>whnf)))
 all_goals first
  | exact B3 h0 rfl ⟨rfl,rfl,trivial⟩ ⟨rfl,trivial⟩ rfl rfl rfl
  | exact F9 rfl rfl rfl (.refl _) rfl (.refl _) rfl
set_option maxHeartbeats 4000000 in
theorem GC (p q:Int × Int) (hp:okF p) (hq:okF q):B6 Tryd.prog 20 [a8 p,a8 q] (.b (FI p q)):=by
 have v1:=V3 p
 have v2:=V3 q
 rw [decide_eq_true hp] at v1
 rw [decide_eq_true hq] at v2
 have e:FI p q = decide (p.1 * q.2 - q.1 * p.2 < 0):=decide_eq_decide.2 ⟨fun h=>h.2.2,fun h=>⟨hp,hq,h⟩⟩
 rw [e]
 obtain ⟨bp1,bp2⟩:=Ao hp
 obtain ⟨bq1,bq2⟩:=Ao hq
 obtain ⟨a,b⟩:=p
 obtain ⟨c,d⟩:=q
 dsimp only at *
 have m1:=k0 (A:=1152921504606846976) (B:=1152921504606846976) bp2 (b:=d) (by omega)
 have m2:=k0 (A:=1152921504606846976) (B:=1152921504606846976) bq2 (b:=b) (by omega)
 have c1:=CT a b c d (by omega) (by omega) (by omega) (by omega)
 have c2:=Y7 (a * d) (c * b)
 have c3:=R0 (a * d - c * b) (by omega)
 have e2:decide (a * d - c * b < 0) = decide ((a * d - c * b).sign < 0):=decide_eq_decide.2 Int.sign_neg_iff.symm
 rw [e2]
 generalize (a * d - c * b).sign = s at *
 generalize a * d - c * b = z at *
 generalize a * d = x at *
 generalize c * b = y at *
 clear e e2 hp hq
 refine E1 Tryd.func20 26 fun hrd E h0=>?_
 clear hrd
 repeat' ((first | refine A4 v1 ?_ | refine A4 v2 ?_ | refine A4 c1 ?_ | refine A4 c2 ?_ | refine A4 c3 ?_ |refine A6 ?_|refine S1 ?_|refine Z1 ?_|refine Z2 ?_|(refine And.intro ?_ ?_<;>intro h<;>try first|(exfalso;omega)|exact absurd rfl h)|refine Z3 ?_|refine Z4 ?_|intro el hel hbB|intro el hel|intro ex|refine Z5 ?_|(refine B2 ?_ ?_;exact ⟨by kernel_rfl,by decide⟩)|refine B0 ?_ ?_|exact A9|refine A8 ?_ ?_|exact A7|(refine A3 ?_ ?_ ?_;kernel_rfl;kernel_rfl)) <;> (try (conv=>whnf)))
 all_goals first
  | exact C1 rfl rfl
  | exact C1 rfl (congrArg AV.b (decide_eq_true (by omega)).symm)
  | exact C1 rfl (congrArg AV.b (decide_eq_false (by omega)).symm)
end Go.Proofs.YtbhegmcbpolemaaDoor

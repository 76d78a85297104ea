/- Fractions multiplied and compared, by the program. -/
import Derived.Test.YtbhegmcbpolemaaDoorRJx2
set_option linter.unusedVariables false
set_option linter.unnecessarySimpa false
set_option linter.unusedSimpArgs false
namespace Go.Proofs.YtbhegmcbpolemaaDoor
open Go Go.Av
attribute [local irreducible] E2 B3 F6 E9 DQ G2 H3 St.le B4 D7
set_option maxRecDepth 100000
set_option maxHeartbeats 4000000 in
theorem HZ (p q:Int × Int):B4 Tryd.prog 18 [Ag p,Ag q] (OW (HU p q)):=by
 have v1:=p4 p
 have v2:=p4 q
 unfold HU
 by_cases hp:okF p
 rotate_left
 ·rw [decide_eq_false hp] at v1
  rw [if_neg fun h=>hp h.1]
  obtain ⟨a,b⟩:=p
  obtain ⟨c,d⟩:=q
  refine E4 Tryd.func18 32 fun hrd E h0=>?_
  clear hrd
  repeat' ((first | refine A5 v1 ?_ |refine A6 ?_|refine S1 ?_|refine Z1 ?_|refine Z2 ?_|(refine And.intro ?_ ?_<;>intro h<;>try first|(exfalso;omega)|exact absurd rfl h)|refine Z3 ?_|refine Z4 ?_|intro el hel hbB|intro el hel|intro ex|refine Z5 ?_|(refine B2 ?_ ?_;exact ⟨by kernel_rfl,by decide⟩)|refine B0 ?_ ?_|exact A9|refine A8 ?_ ?_|exact A7|(refine A3 ?_ ?_ ?_;kernel_rfl;kernel_rfl)) <;> (try (conv=>whnf)))
  all_goals first
   | exact I0 rfl rfl rfl (.refl _) rfl (.refl _) rfl
 rw [decide_eq_true hp] at v1
 by_cases hq:okF q
 rotate_left
 ·rw [decide_eq_false hq] at v2
  rw [if_neg fun h=>hq h.2]
  obtain ⟨a,b⟩:=p
  obtain ⟨c,d⟩:=q
  refine E4 Tryd.func18 32 fun hrd E h0=>?_
  clear hrd
  repeat' ((first | refine A5 v1 ?_ | refine A5 v2 ?_ |refine A6 ?_|refine S1 ?_|refine Z1 ?_|refine Z2 ?_|(refine And.intro ?_ ?_<;>intro h<;>try first|(exfalso;omega)|exact absurd rfl h)|refine Z3 ?_|refine Z4 ?_|intro el hel hbB|intro el hel|intro ex|refine Z5 ?_|(refine B2 ?_ ?_;exact ⟨by kernel_rfl,by decide⟩)|refine B0 ?_ ?_|exact A9|refine A8 ?_ ?_|exact A7|(refine A3 ?_ ?_ ?_;kernel_rfl;kernel_rfl)) <;> (try (conv=>whnf)))
  all_goals first
   | exact I0 rfl rfl rfl (.refl _) rfl (.refl _) rfl
 rw [decide_eq_true hq] at v2
 rw [if_pos ⟨hp,hq⟩]
 obtain ⟨bp1,bp2⟩:=EW hp
 obtain ⟨bq1,bq2⟩:=EW hq
 obtain ⟨a,b⟩:=p
 obtain ⟨c,d⟩:=q
 dsimp only at *
 have m1:=N3 (A:=1152921504606846976) (B:=1152921504606846976) bp2 bq2
 have m3:=N3 (A:=1152921504606846976) (B:=1152921504606846976) (a:=b) (b:=d) (by omega) (by omega)
 have m5:b * d ≠ 0:=Int.mul_ne_zero (by omega) (by omega)
 have c1:=I4 a (by omega) (by omega)
 have c2:=I4 c (by omega) (by omega)
 have c3:=I4 b (by omega) (by omega)
 have c4:=I4 d (by omega) (by omega)
 have c5:=V3 a c
 have c7:=V3 b d
 have c6:=U4 (a * c) (b * d) (by omega) (by omega) m5
 rw [Iz] at c6
 generalize DT (F7 (a * c) (b * d)) = R at *
 obtain ⟨e,n1,d1⟩:=R
 generalize a * c = x at *
 generalize b * d = w at *
 clear hp hq
 refine E4 Tryd.func18 32 fun hrd E h0=>?_
 clear hrd
 repeat' ((first | refine A5 v1 ?_ | refine A5 v2 ?_ | refine A5 c1 ?_ | refine A5 c2 ?_ | refine A5 c3 ?_ | refine A5 c4 ?_ | refine A5 c5 ?_ | refine A5 c6 ?_ | refine A5 c7 ?_ | (refine Ae 3 ?_;refine Af (id:=3) (σ':=⟨[(2, .iptr [.i a, .i b]),(3, .iptr [.i c, .i d]),(4, .ref 2 0),(5, .i 0)],3,[(2,some (.box [.i 0, .i 0]))]⟩) (B5 h0 rfl ⟨rfl,rfl,rfl,rfl,trivial⟩ ⟨rfl,trivial⟩ rfl rfl rfl) ?_;refine I1 (id:=3) ⟨[(4, .ref 2 0),(5, .i e)],3,[(2,some (.box [.i n1, .i d1]))]⟩ ?_ ?_) |refine A6 ?_|refine S1 ?_|refine Z1 ?_|refine Z2 ?_|(refine And.intro ?_ ?_<;>intro h<;>try first|(exfalso;omega)|exact absurd rfl h)|refine Z3 ?_|refine Z4 ?_|intro el hel hbB|intro el hel|intro ex|refine Z5 ?_|(refine B2 ?_ ?_;exact ⟨by kernel_rfl,by decide⟩)|refine B0 ?_ ?_|exact A9|refine A8 ?_ ?_|exact A7|(refine A3 ?_ ?_ ?_;kernel_rfl;kernel_rfl)) <;> (try (conv=>whnf)))
 all_goals first
  | exact B5 h0 rfl ⟨rfl,rfl,trivial⟩ ⟨rfl,trivial⟩ rfl rfl rfl
  | exact I0 rfl rfl rfl (.refl _) rfl (.refl _) rfl
end Go.Proofs.YtbhegmcbpolemaaDoor

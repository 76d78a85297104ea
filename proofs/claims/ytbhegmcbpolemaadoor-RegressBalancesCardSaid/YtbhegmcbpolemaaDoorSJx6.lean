/- Fractions added, by the program. -/
import Derived.Test.YtbhegmcbpolemaaDoorSJx2
set_option linter.unusedVariables false
set_option linter.unnecessarySimpa false
set_option linter.unusedSimpArgs false
namespace Go.Proofs.YtbhegmcbpolemaaDoor
open Go Go.Av
attribute [local irreducible] E3 B5 F2 F0 DQ F5 G8 St.le B6 D3
set_option maxRecDepth 100000
theorem Eh {f g:Nat} {a b r:AV} (h:B6 Tryd.prog f [a,b, .fn g []] r):B6 Tryd.prog f [a,b, .v (.func (.func g) #[] #[])] r:=by
 delta B6 at h ⊢
 refine ⟨h.1,fun X w vs hX htb hl hv=>h.2 X w vs hX htb hl fun j b v hj hvj=>?_⟩
 match j,hj with
 | 0,hj=>exact hv 0 b v hj hvj
 | 1,hj=>exact hv 1 b v hj hvj
 | 2,hj =>
   cases hj
   have:=hv 2 _ v rfl hvj
   cases this
   exact .fn g [] [] rfl fun j x c hx=>by simp at hx
set_option maxHeartbeats 4000000 in
theorem CU (g:Nat) (f:Int → Int → Int) (hg:∀ x y,B6 Tryd.prog g [H9 x,H9 y] (H9 (f x y))) (hf:∀ x y:Int,(-1329227995784915872903807060280344576 ≤ x ∧ x ≤ 1329227995784915872903807060280344576) → (-1329227995784915872903807060280344576 ≤ y ∧ y ≤ 1329227995784915872903807060280344576) → -170141183460469231731687303715884105728 < f x y ∧ f x y < 170141183460469231731687303715884105728) (p q:Int × Int) :
  B6 Tryd.prog 34 [a8 p,a8 q, .fn g []] (Ll (if okF p ∧ okF q then Y9 (J8 (f (p.1 * q.2) (q.1 * p.2)) (p.2 * q.2)) else (11,(0,0)))):=by
 have v1:=V3 p
 have v2:=V3 q
 by_cases hp:okF p
 rotate_left
 ·rw [decide_eq_false hp] at v1
  rw [if_neg fun h=>hp h.1]
  obtain ⟨a,b⟩:=p
  obtain ⟨c,d⟩:=q
  refine E1 Tryd.func34 34 fun hrd E h0=>?_
  clear hrd hg hf
  repeat' ((first | refine A4 v1 ?_ |refine A6 ?_|refine S1 ?_|refine Z1 ?_|refine Z2 ?_|(refine And.intro ?_ ?_<;>intro h<;>try first|(exfalso;omega)|exact absurd rfl h)|refine Z3 ?_|refine Z4 ?_|intro el hel hbB|intro el hel|intro ex|refine Z5 ?_|(refine B2 ?_ ?_;exact ⟨by kernel_rfl,by decide⟩)|refine B0 ?_ ?_|exact A9|refine A8 ?_ ?_|exact A7|(refine A3 ?_ ?_ ?_;kernel_rfl;kernel_rfl)) <;> (try (conv=>whnf)))
  all_goals first
   | exact F9 rfl rfl rfl (.refl _) rfl (.refl _) rfl
 rw [decide_eq_true hp] at v1
 by_cases hq:okF q
 rotate_left
 ·rw [decide_eq_false hq] at v2
  rw [if_neg fun h=>hq h.2]
  obtain ⟨a,b⟩:=p
  obtain ⟨c,d⟩:=q
  refine E1 Tryd.func34 34 fun hrd E h0=>?_
  clear hrd hg hf
  repeat' ((first | refine A4 v1 ?_ | refine A4 v2 ?_ |refine A6 ?_|refine S1 ?_|refine Z1 ?_|refine Z2 ?_|(refine And.intro ?_ ?_<;>intro h<;>try first|(exfalso;omega)|exact absurd rfl h)|refine Z3 ?_|refine Z4 ?_|intro el hel hbB|intro el hel|intro ex|refine Z5 ?_|(refine B2 ?_ ?_;exact ⟨by kernel_rfl,by decide⟩)|refine B0 ?_ ?_|exact A9|refine A8 ?_ ?_|exact A7|(refine A3 ?_ ?_ ?_;kernel_rfl;kernel_rfl)) <;> (try (conv=>whnf)))
  all_goals first
   | exact F9 rfl rfl rfl (.refl _) rfl (.refl _) rfl
 rw [decide_eq_true hq] at v2
 rw [if_pos ⟨hp,hq⟩]
 obtain ⟨bp1,bp2⟩:=Ao hp
 obtain ⟨bq1,bq2⟩:=Ao hq
 obtain ⟨a,b⟩:=p
 obtain ⟨c,d⟩:=q
 dsimp only at *
 have m1:=k0 (A:=1152921504606846976) (B:=1152921504606846976) bp2 (b:=d) (by omega)
 have m2:=k0 (A:=1152921504606846976) (B:=1152921504606846976) bq2 (b:=b) (by omega)
 have m3:=k0 (A:=1152921504606846976) (B:=1152921504606846976) (a:=b) (b:=d) (by omega) (by omega)
 have m4:=hf (a * d) (c * b) (by omega) (by omega)
 have m5:b * d ≠ 0:=Int.mul_ne_zero (by omega) (by omega)
 have c1:=CT a b c d (by omega) (by omega) (by omega) (by omega)
 have c2:=hg (a * d) (c * b)
 have c3:=H8 b (by omega) (by omega)
 have c4:=H8 d (by omega) (by omega)
 have c5:=V2 b d
 have c6:=U5 (f (a * d) (c * b)) (b * d) m4 (by omega) m5
 rw [JA] at c6
 generalize Y9 (J8 (f (a * d) (c * b)) (b * d)) = R at *
 obtain ⟨e,n1,d1⟩:=R
 generalize f (a * d) (c * b) = z at *
 generalize a * d = x at *
 generalize c * b = y at *
 generalize b * d = w at *
 clear hp hq hg hf
 refine E1 Tryd.func34 34 fun hrd E h0=>?_
 clear hrd
 repeat' ((first | refine A4 v1 ?_ | refine A4 v2 ?_ | refine A4 c1 ?_ | refine A4 c2 ?_ | refine A4 c3 ?_ | refine A4 c4 ?_ | refine A4 c5 ?_ | refine A4 c6 ?_ | (refine S7 3 ?_;refine S8 (id:=3) (σ':=⟨[(2, .fn g []),(3, .iptr [.i a, .i b]),(4, .iptr [.i c, .i d]),(6, .ref 2 0),(7, .i 0)],3,[(2,some (.box [.i 0, .i 0]))]⟩) (B3 h0 rfl ⟨rfl,rfl,rfl,rfl,rfl,trivial⟩ ⟨rfl,trivial⟩ rfl rfl rfl) ?_;refine F6 (id:=3) ⟨[(6, .ref 2 0),(7, .i e)],3,[(2,some (.box [.i n1, .i d1]))]⟩ ?_ ?_) |refine A6 ?_|refine S1 ?_|refine Z1 ?_|refine Z2 ?_|(refine And.intro ?_ ?_<;>intro h<;>try first|(exfalso;omega)|exact absurd rfl h)|refine Z3 ?_|refine Z4 ?_|intro el hel hbB|intro el hel|intro ex|refine Z5 ?_|(refine B2 ?_ ?_;exact ⟨by kernel_rfl,by decide⟩)|refine B0 ?_ ?_|exact A9|refine A8 ?_ ?_|exact A7|(refine A3 ?_ ?_ ?_;kernel_rfl;kernel_rfl)) <;> (try (conv=>whnf)))
 all_goals first
  | exact B3 h0 rfl ⟨rfl,rfl,trivial⟩ ⟨rfl,trivial⟩ rfl rfl rfl
  | exact F9 rfl rfl rfl (.refl _) rfl (.refl _) rfl
set_option maxHeartbeats 4000000 in
theorem Hi (p q:Int × Int):B6 Tryd.prog 17 [a8 p,a8 q] (Ll (Al p q)):=by
 have c1:=Eh (CU 35 (fun x y=>x + y) AK (fun x y h1 h2=>by omega) p q)
 have e:(if okF p ∧ okF q then Y9 (J8 ((fun x y=>x + y) (p.1 * q.2) (q.1 * p.2)) (p.2 * q.2)) else (11,(0,0))) = Al p q:=rfl
 rw [e] at c1
 generalize Al p q = R at *
 obtain ⟨e,n1,d1⟩:=R
 obtain ⟨a,b⟩:=p
 obtain ⟨c,d⟩:=q
 refine E1 Tryd.func17 11 fun hrd E h0=>?_
 clear hrd
 repeat' ((first | refine A4 c1 ?_ |refine A6 ?_|refine S1 ?_|refine Z1 ?_|refine Z2 ?_|(refine And.intro ?_ ?_<;>intro h<;>try first|(exfalso;omega)|exact absurd rfl h)|refine Z3 ?_|refine Z4 ?_|intro el hel hbB|intro el hel|intro ex|refine Z5 ?_|(refine B2 ?_ ?_;exact ⟨by kernel_rfl,by decide⟩)|refine B0 ?_ ?_|exact A9|refine A8 ?_ ?_|exact A7|(refine A3 ?_ ?_ ?_;kernel_rfl;kernel_rfl)) <;> (try (conv=>whnf)))
 all_goals first
  | exact F9 rfl rfl rfl (.refl _) rfl (.refl _) rfl
set_option maxHeartbeats 4000000 in
theorem Ng (p q:Int × Int):B6 Tryd.prog 40 [a8 p,a8 q] (Ll (Am p q)):=by
 have c1:=Eh (CU 42 (fun x y=>x - y) Y7 (fun x y h1 h2=>by omega) p q)
 have e:(if okF p ∧ okF q then Y9 (J8 ((fun x y=>x - y) (p.1 * q.2) (q.1 * p.2)) (p.2 * q.2)) else (11,(0,0))) = Am p q:=rfl
 rw [e] at c1
 generalize Am p q = R at *
 obtain ⟨e,n1,d1⟩:=R
 obtain ⟨a,b⟩:=p
 obtain ⟨c,d⟩:=q
 refine E1 Tryd.func40 11 fun hrd E h0=>?_
 clear hrd
 repeat' ((first | refine A4 c1 ?_ |refine A6 ?_|refine S1 ?_|refine Z1 ?_|refine Z2 ?_|(refine And.intro ?_ ?_<;>intro h<;>try first|(exfalso;omega)|exact absurd rfl h)|refine Z3 ?_|refine Z4 ?_|intro el hel hbB|intro el hel|intro ex|refine Z5 ?_|(refine B2 ?_ ?_;exact ⟨by kernel_rfl,by decide⟩)|refine B0 ?_ ?_|exact A9|refine A8 ?_ ?_|exact A7|(refine A3 ?_ ?_ ?_;kernel_rfl;kernel_rfl)) <;> (try (conv=>whnf)))
 all_goals first
  | exact F9 rfl rfl rfl (.refl _) rfl (.refl _) rfl
end Go.Proofs.YtbhegmcbpolemaaDoor

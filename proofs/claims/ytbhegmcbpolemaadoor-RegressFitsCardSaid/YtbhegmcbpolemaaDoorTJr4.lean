/- Long division, and fractions in lowest terms, by the program. -/
import Derived.Test.YtbhegmcbpolemaaDoorTJr3
set_option linter.unusedVariables false
set_option linter.unnecessarySimpa false
set_option linter.unusedSimpArgs false
namespace Go.Proofs.YtbhegmcbpolemaaDoor
open Go Go.Av
attribute [local irreducible] E4 B6 F1 E7 DQ F6 F9 St.le B5 D4
set_option maxRecDepth 100000
def Fi (X Y:Nat):Nat:=if lW Y + 62 ≤ lW X then 0 else X / Y
set_option maxHeartbeats 16000000 in
theorem Fj (X Y:Nat) (hX:X < 170141183460469231731687303715884105728) (hY0:0 < Y) (hY:Y < 170141183460469231731687303715884105728):B5 Tryd.prog 61 [D6 X,D6 Y] (.tup [.i (Fi X Y), .b (decide (X / Y ≤ 1152921504606846976))]):=by
 have c1:=Ct X (by omega)
 have c2:=Ct Y (by omega)
 have l1:=(T0 (x:=X) (by omega)).2.2
 have l2:=(T0 (x:=Y) (by omega)).2.2
 unfold Fi
 by_cases hm:lW Y + 62 ≤ lW X
 ·have hd:=DN hY0 (by omega) (by omega) hm
  rw [if_pos hm,decide_eq_false (by omega)]
  generalize lW X = a at *
  generalize lW Y = b at *
  refine D1 Tryd.func61 38 fun hrd E h0=>?_
  clear hrd
  repeat' ((first | refine A4 c1 ?_ | refine A4 c2 ?_ |refine A5 ?_|refine S1 ?_|refine Z1 ?_|refine Z2 ?_|(refine And.intro ?_ ?_<;>intro h<;>try first|(exfalso;omega)|exact absurd rfl h)|refine Z3 ?_|refine Z4 ?_|intro el hel hbB|intro el hel|intro ex|refine Z5 ?_|(refine B0 ?_ ?_;exact ⟨by kernel_rfl,by decide⟩)|refine A9 ?_ ?_|exact A8|refine A7 ?_ ?_|exact A6|(refine A3 ?_ ?_ ?_;kernel_rfl;kernel_rfl)) <;> (try (conv=>whnf)))
  all_goals first
   | (exfalso;omega)
   | exact s8 rfl rfl rfl
 rw [if_neg hm]
 -- the digits to come
 obtain ⟨m,hm1,hm2⟩:∃ m:Nat,(m:Int) = (if (lW Y:Int) ≤ lW X then (lW X:Int) - lW Y + 1 else 0) ∧ m ≤ 62:=by
  by_cases h:lW Y ≤ lW X
  ·exact ⟨lW X - lW Y + 1,by rw [if_pos (by omega)];omega,by omega⟩
  ·exact ⟨0,by rw [if_neg (by omega)];rfl,by omega⟩
 have hs:X < Y * 2 ^ m ∧ (1 ≤ m → Y * 2 ^ (m - 1) ≤ 170141183460469231731687303715884105728):=by
  by_cases h:lW Y ≤ lW X
  ·rw [if_pos (by omega)] at hm1
   obtain rfl:m = lW X - lW Y + 1:=by omega
   obtain ⟨s1,s2⟩:=Kz hY0 (by omega) (by omega) h
   refine ⟨s1,fun _=>?_⟩
   rw [Nat.add_sub_cancel]
   refine Nat.le_trans s2 ?_
   have h3:2 ^ lW X ≤ 2 * X ∨ X = 0:=by
    by_cases hx:X = 0
    ·exact .inr hx
    ·exact .inl ((T0 (x:=X) (by omega)).2.1 hx)
   rcases h3 with h3 | h3
   ·have:lW X ≤ 127:=Nat.le_of_not_lt fun h4=>by
     have:2 ^ 128 ≤ 2 ^ lW X:=Nat.pow_le_pow_right (by decide) h4
     omega
    exact Nat.le_trans (Nat.pow_le_pow_right (by decide) this) (by decide)
   ·subst h3
    have:lW 0 = 0:=by simp [lW,Lib.bitLen,Lib.bitLenAux]
    rw [this];decide
  ·rw [if_neg (by omega)] at hm1
   obtain rfl:m = 0:=by omega
   exact ⟨by rw [Nat.pow_zero,Nat.mul_one];exact Mo (by omega) (by omega) (by omega),fun h=>by omega⟩
 obtain ⟨hs1,hs2⟩:=hs
 have hn:(lW X:Int) - lW Y = if (lW Y:Int) ≤ lW X then (m:Int) - 1 else (lW X:Int) - lW Y:=by split <;> simp_all <;> omega
 have hle:(lW X:Int) - lW Y ≤ 61:=by omega
 have hmn:(1 ≤ m → (lW X:Int) - lW Y = m - 1) ∧ (m = 0 → (lW X:Int) - lW Y < 0):=by
  constructor
  ·intro h;split at hm1 <;> omega
  ·intro h;split at hm1 <;> omega
 clear hn hm1
 generalize lW X = a at *
 generalize lW Y = b at *
 refine D1 Tryd.func61 38 fun hrd E h0=>?_
 clear hrd
 repeat' ((first | refine A4 c1 ?_ | refine A4 c2 ?_ |refine A5 ?_|refine S1 ?_|refine Z1 ?_|refine Z2 ?_|(refine And.intro ?_ ?_<;>intro h<;>try first|(exfalso;omega)|exact absurd rfl h)|refine Z3 ?_|refine Z4 ?_|intro el hel hbB|intro el hel|intro ex|refine Z5 ?_|(refine B0 ?_ ?_;exact ⟨by kernel_rfl,by decide⟩)|refine A9 ?_ ?_|exact A8|refine A7 ?_ ?_|exact A6|(refine A3 ?_ ?_ ?_;kernel_rfl;kernel_rfl)) <;> (try (conv=>whnf)))
 all_goals first
  | (exfalso;omega)
  | skip
 clear c1 c2
 have hk0:(a:Int) - b = if m = 0 then (a:Int) - b else ((m:Nat):Int) - 1:=by split <;> omega
 refine D7 (ι:=Nat × Nat × Nat) (fun s=>⟨[(2, .ref 0 0),(3, .ref 1 0),(7, .i s.2.1),(8, .i (if s.1 = 0 then (if m = 0 then (a:Int) - b else -1) else ((s.1:Nat):Int) - 1))],2,[(0,some (.box (D3 s.2.2))),(1,some (.box (D3 Y)))]⟩)
  (fun s=>s.1 ≤ m ∧ X = s.2.1 * (Y * 2 ^ s.1) + s.2.2 ∧ s.2.2 < Y * 2 ^ s.1 ∧ s.2.1 < 2 ^ (62 - s.1)) (fun s=>s.1) (m,0,X) ⟨Nat.le_refl _,by simp,hs1,Nat.pow_pos (by decide)⟩
  (B4 h0 rfl ⟨rfl,rfl,rfl,congrArg (fun z=>some (AV.i z)) (by dsimp only;split <;> omega),trivial⟩ ⟨rfl,rfl,trivial⟩ rfl rfl rfl) (fun s hI=>?_)
 obtain ⟨j,q,r⟩:=s
 obtain ⟨i1,i2,i3,i4⟩:=hI
 dsimp only at i1 i2 i3 i4 ⊢
 have hrX:r ≤ X:=by rw [i2];exact Nat.le_add_left _ _
 cases j with
 | zero =>
   rw [Nat.pow_zero,Nat.mul_one] at i2 i3
   have hq:q = X / Y:=by
    rw [i2,Nat.mul_comm,Nat.mul_add_div hY0,Nat.div_eq_of_lt i3,Nat.add_zero]
   rw [hq] at i4 ⊢
   have:2 ^ (62 - 0) = 4611686018427387904:=by decide
   rw [this] at i4
   have hd:decide (((X / Y:Nat):Int) ≤ 1152921504606846976) = decide (X / Y ≤ 1152921504606846976):=by
    by_cases h:X / Y ≤ 1152921504606846976
    ·rw [decide_eq_true h,decide_eq_true (by omega)]
    ·rw [decide_eq_false h,decide_eq_false (by omega)]
   rw [← hd]
   clear i2 i3 hq hd
   generalize X / Y = d at *
   have hk:(if m = 0 then (a:Int) - b else -1) < 0:=by split <;> omega
   simp only [if_true]
   generalize (if m = 0 then (a:Int) - b else -1) = kk at *
   repeat' ((first|refine A5 ?_|refine S1 ?_|refine Z1 ?_|refine Z2 ?_|(refine And.intro ?_ ?_<;>intro h<;>try first|(exfalso;omega)|exact absurd rfl h)|refine Z3 ?_|refine Z4 ?_|intro el hel hbB|intro el hel|intro ex|refine Z5 ?_|(refine B0 ?_ ?_;exact ⟨by kernel_rfl,by decide⟩)|refine A9 ?_ ?_|exact A8|refine A7 ?_ ?_|exact A6|(refine A3 ?_ ?_ ?_;kernel_rfl;kernel_rfl)) <;> (try (conv=>whnf)))
   all_goals first
    | (exfalso;omega)
    | exact s8 rfl rfl rfl
 | succ j =>
   have hp1:Y * 2 ^ j ≤ 170141183460469231731687303715884105728:=by
    refine Nat.le_trans (Nat.mul_le_mul_left _ (Nat.pow_le_pow_right (by decide) ?_)) (hs2 (by omega))
    omega
   have hq2:2 ^ (62 - j) = 2 * 2 ^ (62 - (j + 1)):=by rw [← Nat.pow_succ',show (62 - (j + 1)).succ = 62 - j by omega]
   have hq3:2 ^ (62 - (j + 1)) ≤ 2 ^ 61:=Nat.pow_le_pow_right (by decide) (by omega)
   obtain ⟨d1,d2⟩:=Mn i2 i3
   have c1:=Fg Y j (by omega) (by omega)
   have c2:=BB r ((Y * 2 ^ j:Nat):Int)
   have c3:=U1 ((r:Int) - ((Y * 2 ^ j:Nat):Int)) (by omega)
   have hkj:(if j + 1 = 0 then (if m = 0 then (a:Int) - b else -1) else (((j + 1:Nat):Int)) - 1) = j:=by rw [if_neg (by omega)];omega
   rw [hkj]
   have hkn:(j:Int) - 1 = (if j = 0 then (if m = 0 then (a:Int) - b else -1) else ((j:Nat):Int) - 1):=by
    by_cases h:j = 0
    ·subst h;rw [if_pos rfl,if_neg (by omega)];rfl
    ·rw [if_neg h]
   generalize hPP:Y * 2 ^ j = PP at *
   clear hkj i2 i3
   by_cases hlt:r < PP
   ·have d3:=d2 hlt
    rw [Int.sign_eq_neg_one_of_neg (by omega)] at c3
    clear d1 d2
    repeat' ((first | refine A4 c1 ?_ | refine A4 c2 ?_ | refine A4 c3 ?_ | (refine F5 (id:=9) ⟨[(2, .ref 0 0),(3, .ref 1 0),(7, .i ((q:Int) * 2)),(8, .i (j:Int)),(9, .ref 2 0)],3,[(0,some (.box (D3 r))),(1,some (.box (D3 Y))),(2,some (.box (D3 ((r:Int) - PP))))]⟩ ?_ ?_) |refine A5 ?_|refine S1 ?_|refine Z1 ?_|refine Z2 ?_|(refine And.intro ?_ ?_<;>intro h<;>try first|(exfalso;omega)|exact absurd rfl h)|refine Z3 ?_|refine Z4 ?_|intro el hel hbB|intro el hel|intro ex|refine Z5 ?_|(refine B0 ?_ ?_;exact ⟨by kernel_rfl,by decide⟩)|refine A9 ?_ ?_|exact A8|refine A7 ?_ ?_|exact A6|(refine A3 ?_ ?_ ?_;kernel_rfl;kernel_rfl)) <;> (try (conv=>whnf)))
    all_goals first
     | (exfalso;omega)
     | exact B4 h0 rfl ⟨rfl,rfl,rfl,rfl,rfl,trivial⟩ ⟨rfl,rfl,rfl,trivial⟩ rfl rfl rfl
     | exact ⟨(j,2 * q,r),⟨by dsimp only;omega,by dsimp only;rw [hPP];exact d3,by dsimp only;rw [hPP];exact hlt,by dsimp only;omega⟩,by dsimp only;omega,B4 h0 rfl ⟨rfl,rfl,congrArg (fun z=>some (AV.i z)) (by dsimp only;omega),congrArg (fun z=>some (AV.i z)) hkn,trivial⟩ ⟨rfl,rfl,trivial⟩ rfl rfl rfl⟩
   ·obtain ⟨d3,d4⟩:=d1 (by omega)
    have hsg:0 ≤ ((r:Int) - PP).sign:=by
     rcases Nat.lt_or_ge PP r with h | h
     ·rw [Int.sign_eq_one_of_pos (by omega)];decide
     ·rw [show (r:Int) - PP = 0 by omega];decide
    generalize ((r:Int) - PP).sign = sg at *
    have e3:(r:Int) - PP = ((r - PP:Nat):Int):=by omega
    rw [e3] at c2 c3
    clear d1 d2
    repeat' ((first | refine A4 c1 ?_ | refine A4 c2 ?_ | refine A4 c3 ?_ | (refine F5 (id:=9) ⟨[(2, .ref 0 0),(3, .ref 1 0),(7, .i ((q:Int) * 2)),(8, .i (j:Int)),(9, .ref 2 0)],3,[(0,some (.box (D3 r))),(1,some (.box (D3 Y))),(2,some (.box (D3 ((r - PP:Nat):Int))))]⟩ ?_ ?_) |refine A5 ?_|refine S1 ?_|refine Z1 ?_|refine Z2 ?_|(refine And.intro ?_ ?_<;>intro h<;>try first|(exfalso;omega)|exact absurd rfl h)|refine Z3 ?_|refine Z4 ?_|intro el hel hbB|intro el hel|intro ex|refine Z5 ?_|(refine B0 ?_ ?_;exact ⟨by kernel_rfl,by decide⟩)|refine A9 ?_ ?_|exact A8|refine A7 ?_ ?_|exact A6|(refine A3 ?_ ?_ ?_;kernel_rfl;kernel_rfl)) <;> (try (conv=>whnf)))
    all_goals first
     | (exfalso;omega)
     | exact B4 h0 rfl ⟨rfl,rfl,rfl,rfl,rfl,trivial⟩ ⟨rfl,rfl,rfl,trivial⟩ rfl rfl rfl
     | exact ⟨(j,2 * q + 1,r - PP),⟨by dsimp only;omega,by dsimp only;rw [hPP];exact d3,by dsimp only;rw [hPP];exact d4,by dsimp only;omega⟩,by dsimp only;omega,B4 h0 rfl ⟨rfl,rfl,congrArg (fun z=>some (AV.i z)) (by dsimp only;omega),congrArg (fun z=>some (AV.i z)) hkn,trivial⟩ ⟨rfl,rfl,trivial⟩ rfl rfl rfl⟩
end Go.Proofs.YtbhegmcbpolemaaDoor

/- Matrices that are too large, and the first error of a matrix, by the program. -/
import Derived.Test.YtbhegmcbpolemaaDoorTJp4
import Derived.Test.YtbhegmcbpolemaaDoorTJp7
set_option linter.unusedVariables false
set_option linter.unnecessarySimpa false
set_option linter.unusedSimpArgs false
namespace Go.Proofs.YtbhegmcbpolemaaDoor
open Go Go.Av
attribute [local irreducible] E4 B6 F1 E7 DQ F6 F9 St.le B5 D4
set_option maxRecDepth 100000
abbrev J5:Int:=1329227995784915872903807060280344576
theorem Jo {Z n:Int} (hZ:0 ≤ Z ∧ Z ≤ J5) (hn:1 ≤ n ∧ n ≤ 34359738368):0 ≤ C2 Z * n ∧ C2 Z * n ≤ 72057594037927936 * 34359738368 ∧ 0 ≤ C1 Z * n ∧ C1 Z * n ≤ 18446744073709551616 * 34359738368 ∧ Z * n = 18446744073709551616 * (C2 Z * n) + C1 Z * n:=by
 have h1:0 ≤ C2 Z ∧ C2 Z ≤ 72057594037927936:=by unfold C2;unfold J5 at hZ;omega
 have h2:=L9 Z
 have h3:Z = 18446744073709551616 * C2 Z + C1 Z:=by unfold C2 C1;unfold J5 at hZ;omega
 generalize C2 Z = p at *
 generalize C1 Z = q at *
 refine ⟨Int.mul_nonneg h1.1 (by omega),Int.mul_le_mul h1.2 hn.2 (by omega) (by omega),Int.mul_nonneg h2.1 (by omega),Int.mul_le_mul (by omega) hn.2 (by omega) (by omega),?_⟩
 rw [h3];grind
set_option maxHeartbeats 16000000 in
theorem Jp (M:List (List Int)) (hn:∀ r ∈ M,r.length ≤ 5) (hl:M.length ≤ 1000) (hx:∀ r ∈ M,∀ x ∈ r, -2147483648 ≤ x ∧ x ≤ 2147483648):B5 Tryd.prog 64 [B7 M] (.b (decide (J5 < I4 M))):=by
 have h1:=Y5 1 (by decide) (by decide)
 generalize hG:decide (J5 < I4 M) = G
 refine D1 Tryd.func64 78 fun hrd E h0=>?_
 clear hrd
 repeat' ((first | refine A4 h1 ?_ |refine A5 ?_|refine S1 ?_|refine Z1 ?_|refine Z2 ?_|(refine And.intro ?_ ?_<;>intro h<;>try first|(exfalso;omega)|exact absurd rfl h)|refine Z3 ?_|refine Z4 ?_|intro el hel hbB|intro el hel|intro ex|refine Z5 ?_|(refine B0 ?_ ?_;exact ⟨by kernel_rfl,by decide⟩)|refine A9 ?_ ?_|exact A8|refine A7 ?_ ?_|exact A6|(refine A3 ?_ ?_ ?_;kernel_rfl;kernel_rfl)) <;> (try (conv=>whnf)))
 refine D7 (ι:=Nat × Int) (fun s=>⟨[(3, .ref 0 0),(16,B7 M),(17, .i M.length),(18, .i s.1)],1,[(0,some (.box (D3 s.2)))]⟩) (fun s=>s.1 ≤ M.length ∧ 1 ≤ s.2 ∧ s.2 ≤ J5 ∧ s.2 * I4 (M.drop s.1) = I4 M) (fun s=>M.length - s.1) (0,1) ⟨Nat.zero_le _,by decide,by decide,by simp⟩
  (B4 h0 rfl ⟨rfl,rfl,rfl,rfl,trivial⟩ ⟨rfl,trivial⟩ rfl rfl rfl) (fun s hI=>?_)
 obtain ⟨i,Z⟩:=s
 obtain ⟨i1,i2,i3,i4⟩:=hI
 dsimp only at i1 i2 i3 i4 ⊢
 by_cases hi:i < M.length
 ·obtain ⟨R,hR⟩:∃ R,M[i]? = some R:=⟨_,List.getElem?_eq_getElem hi⟩
  have hR2:M[((i:Nat):Int).toNat]? = some R:=hR
  have hRm:=List.mem_of_getElem? hR
  have hRl:=hn R hRm
  have hRx:=hx R hRm
  rw [LB hR] at i4
  repeat' ((first | (refine B3 (x:=R) hR2 (by omega) ?_) |refine A5 ?_|refine S1 ?_|refine Z1 ?_|refine Z2 ?_|(refine And.intro ?_ ?_<;>intro h<;>try first|(exfalso;omega)|exact absurd rfl h)|refine Z3 ?_|refine Z4 ?_|intro el hel hbB|intro el hel|intro ex|refine Z5 ?_|(refine B0 ?_ ?_;exact ⟨by kernel_rfl,by decide⟩)|refine A9 ?_ ?_|exact A8|refine A7 ?_ ?_|exact A6|(refine A3 ?_ ?_ ?_;kernel_rfl;kernel_rfl)) <;> (try (conv=>whnf)))
  all_goals first
   | (exfalso;omega)
   | skip
  refine D7 (ι:=Nat × Int) (fun s=>⟨[(3, .ref 0 0),(16,B7 M),(17, .i M.length),(18, .i i),(6, .i s.2),(22,B8 R),(23, .i R.length),(24, .i s.1)],1,[(0,some (.box (D3 Z)))]⟩) (fun s=>s.1 ≤ R.length ∧ 0 ≤ s.2 ∧ s.2 ≤ 2147483648 * s.1 ∧ s.2 + K0 (R.drop s.1) = K0 R) (fun s=>R.length - s.1) (0,0) ⟨Nat.zero_le _,by decide,by decide,by simp⟩
   (B4 h0 rfl ⟨rfl,rfl,rfl,rfl,rfl,rfl,rfl,rfl,trivial⟩ ⟨rfl,trivial⟩ rfl rfl rfl) (fun s hI=>?_)
  obtain ⟨k,S⟩:=s
  obtain ⟨j1,j2,j3,j4⟩:=hI
  dsimp only at j1 j2 j3 j4 ⊢
  by_cases hk:k < R.length
  ·obtain ⟨x,hxk⟩:∃ x,R[k]? = some x:=⟨_,List.getElem?_eq_getElem hk⟩
   have hxk2:R[((k:Nat):Int).toNat]? = some x:=hxk
   have hxb:=hRx x (List.mem_of_getElem? hxk)
   rw [Fe hxk] at j4
   repeat' ((first | (refine B3 (x:=x) hxk2 (by omega) ?_) |refine A5 ?_|refine S1 ?_|refine Z1 ?_|refine Z2 ?_|(refine And.intro ?_ ?_<;>intro h<;>try first|(exfalso;omega)|exact absurd rfl h)|refine Z3 ?_|refine Z4 ?_|intro el hel hbB|intro el hel|intro ex|refine Z5 ?_|(refine B0 ?_ ?_;exact ⟨by kernel_rfl,by decide⟩)|refine A9 ?_ ?_|exact A8|refine A7 ?_ ?_|exact A6|(refine A3 ?_ ?_ ?_;kernel_rfl;kernel_rfl)) <;> (try (conv=>whnf)))
   all_goals first
    | (exfalso;omega)
    | exact ⟨(k + 1,S + max x (-x)),⟨by dsimp only;omega,by dsimp only;omega,by dsimp only;omega,by dsimp only;omega⟩,by dsimp only;omega,B4 h0 rfl ⟨rfl,rfl,rfl,rfl,rfl,rfl,rfl,rfl,trivial⟩ ⟨rfl,trivial⟩ rfl rfl rfl⟩
  ·have hkk:k = R.length:=by omega
   subst hkk
   rw [List.drop_length,K0,Int.add_zero] at j4
   subst j4
   repeat' ((first|refine A5 ?_|refine S1 ?_|refine Z1 ?_|refine Z2 ?_|(refine And.intro ?_ ?_<;>intro h<;>try first|(exfalso;omega)|exact absurd rfl h)|refine Z3 ?_|refine Z4 ?_|intro el hel hbB|intro el hel|intro ex|refine Z5 ?_|(refine B0 ?_ ?_;exact ⟨by kernel_rfl,by decide⟩)|refine A9 ?_ ?_|exact A8|refine A7 ?_ ?_|exact A6|(refine A3 ?_ ?_ ?_;kernel_rfl;kernel_rfl)) <;> (try (conv=>whnf)))
   all_goals first
    | (exfalso;omega)
    | skip
   have hs1:b9 R = max (K0 R) 1:=rfl
   have hsb:1 ≤ max (K0 R) 1 ∧ max (K0 R) 1 ≤ 34359738368:=by omega
   have hw1:IntKind.u64.wrap (max (K0 R) 1) = max (K0 R) 1:=by rw [HM];omega
   obtain ⟨s1,s2,s3,s4,s5⟩:=Jo (Z:=Z) (n:=max (K0 R) 1) (by omega) hsb
   have c1:=o8 (C1 Z) (max (K0 R) 1) (L9 Z) (by omega)
   have c2:=o8 (C2 Z) (max (K0 R) 1) (M5 Z) (by omega)
   rw [← hw1] at c1 c2 s1 s2 s3 s4 s5 hs1 hsb
   rw [hs1] at i4
   generalize IntKind.u64.wrap (max (K0 R) 1) = n at *
   have hV:∀ T,Z * (n * T) = (Z * n) * T:=fun T=>by grind
   rw [hV,s5] at i4
   clear hV hw1
   have hp:=DO (M.drop (i + 1))
   generalize hA:C2 Z * n = A at *
   generalize hB:C1 Z * n = B at *
   have c3:=Y4 (A % 18446744073709551616) (B / 18446744073709551616) 0 (by omega) (by omega) (by decide) (by decide)
   have hw2:IntKind.u64.wrap (A / 18446744073709551616 + (A % 18446744073709551616 + B / 18446744073709551616 + 0) / 18446744073709551616) = A / 18446744073709551616 + (A % 18446744073709551616 + B / 18446744073709551616 + 0) / 18446744073709551616:=by rw [HM];omega
   have e1:18446744073709551616 * A + B ≤ J5 → D3 (18446744073709551616 * A + B) = [uA ((A % 18446744073709551616 + B / 18446744073709551616 + 0) % 18446744073709551616),uA (B % 18446744073709551616)]:=fun h=>by
    have e3:C2 (18446744073709551616 * A + B) = (A % 18446744073709551616 + B / 18446744073709551616 + 0) % 18446744073709551616:=by unfold C2;unfold J5 at h;omega
    have e4:C1 (18446744073709551616 * A + B) = B % 18446744073709551616:=by unfold C1;omega
    unfold D3
    rw [e3,e4]
   have e2:J5 < 18446744073709551616 * A + B ↔ (0 < A / 18446744073709551616 + (A % 18446744073709551616 + B / 18446744073709551616 + 0) / 18446744073709551616 ∨ 72057594037927936 < (A % 18446744073709551616 + B / 18446744073709551616 + 0) % 18446744073709551616) ∨ ((A % 18446744073709551616 + B / 18446744073709551616 + 0) % 18446744073709551616 = 72057594037927936 ∧ 0 < B % 18446744073709551616):=by unfold J5;omega
   have hbig:J5 < 18446744073709551616 * A + B → G = true:=fun h=>by
    rw [← hG, ← i4]
    refine decide_eq_true ?_
    have:(18446744073709551616 * A + B) * 1 ≤ (18446744073709551616 * A + B) * I4 (M.drop (i + 1)):=Int.mul_le_mul_of_nonneg_left hp (by omega)
    omega
   have hpos:1 ≤ 18446744073709551616 * A + B:=by
    rw [← s5]
    have:=Int.mul_le_mul i2 hsb.1 (by omega) (by omega)
    omega
   generalize hU:(A % 18446744073709551616 + B / 18446744073709551616 + 0) % 18446744073709551616 = U at *
   generalize hO:(A % 18446744073709551616 + B / 18446744073709551616 + 0) / 18446744073709551616 = O at *
   generalize hL:B % 18446744073709551616 = L at *
   generalize hA1:A / 18446744073709551616 = A1 at *
   generalize hA2:A % 18446744073709551616 = A2 at *
   generalize hB1:B / 18446744073709551616 = B1 at *
   generalize hVV:18446744073709551616 * A + B = V at *
   clear s1 s2 s3 s4 s5 hA hB hU hO hL hA1 hA2 hB1 hVV hs1
   repeat' ((first | refine A4 c1 ?_ | refine A4 c2 ?_ | refine a8 c3 ?_ |refine A5 ?_|refine S1 ?_|refine Z1 ?_|refine Z2 ?_|(refine And.intro ?_ ?_<;>intro h<;>try first|(exfalso;omega)|exact absurd rfl h)|refine Z3 ?_|refine Z4 ?_|intro el hel hbB|intro el hel|intro ex|refine Z5 ?_|(refine B0 ?_ ?_;exact ⟨by kernel_rfl,by decide⟩)|refine A9 ?_ ?_|exact A8|refine A7 ?_ ?_|exact A6|(refine A3 ?_ ?_ ?_;kernel_rfl;kernel_rfl)) <;> (try (conv=>whnf)))
   all_goals first
    | exact B9 rfl (congrArg AV.b (hbig (by omega)).symm)
    | exact ⟨(i + 1,V),⟨by dsimp only;omega,hpos,by dsimp only;omega,i4⟩,by dsimp only;omega,B4 h0 rfl ⟨rfl,rfl,rfl,rfl,trivial⟩ ⟨congrArg (fun z:List AV=>D9.box z) (e1 (by omega)),trivial⟩ rfl rfl rfl⟩
    | (exfalso;omega)
 ·have hii:i = M.length:=by omega
  subst hii
  rw [List.drop_length,I4,Int.mul_one] at i4
  have hGf:G = false:=by rw [← hG, ← i4];exact decide_eq_false (by omega)
  repeat' ((first|refine A5 ?_|refine S1 ?_|refine Z1 ?_|refine Z2 ?_|(refine And.intro ?_ ?_<;>intro h<;>try first|(exfalso;omega)|exact absurd rfl h)|refine Z3 ?_|refine Z4 ?_|intro el hel hbB|intro el hel|intro ex|refine Z5 ?_|(refine B0 ?_ ?_;exact ⟨by kernel_rfl,by decide⟩)|refine A9 ?_ ?_|exact A8|refine A7 ?_ ?_|exact A6|(refine A3 ?_ ?_ ?_;kernel_rfl;kernel_rfl)) <;> (try (conv=>whnf)))
  all_goals first
   | (exfalso;omega)
   | exact B9 rfl (congrArg AV.b hGf.symm)
theorem HN {α:Type} {l:List α} {p:α → Bool} {i:Nat} {x:α} (h:l[i]? = some x) (hp:p x = true):l.any p = true:=List.any_eq_true.2 ⟨x,List.mem_of_getElem? h,hp⟩
theorem Mw {α:Type} {l:List α} {p:α → Bool} (h:∀ (i:Nat) x,i < l.length → l[i]? = some x → p x = false):l.any p = false:=R4 fun x hx=>by
 obtain ⟨i,hi⟩:=List.mem_iff_getElem?.1 hx
 exact h i x (List.getElem?_eq_some_iff.1 hi).1 hi
set_option maxHeartbeats 16000000 in
theorem BI (M:List (List Int)):B5 Tryd.prog 46 [B7 M] (.i (F0 M)):=by
 generalize hG:F0 M = G
 unfold F0 at hG
 by_cases h1:M.length = 0
 ·rw [if_pos h1] at hG
  subst hG
  refine D1 Tryd.func46 51 fun hrd E h0=>?_
  clear hrd
  repeat' ((first|refine A5 ?_|refine S1 ?_|refine Z1 ?_|refine Z2 ?_|(refine And.intro ?_ ?_<;>intro h<;>try first|(exfalso;omega)|exact absurd rfl h)|refine Z3 ?_|refine Z4 ?_|intro el hel hbB|intro el hel|intro ex|refine Z5 ?_|(refine B0 ?_ ?_;exact ⟨by kernel_rfl,by decide⟩)|refine A9 ?_ ?_|exact A8|refine A7 ?_ ?_|exact A6|(refine A3 ?_ ?_ ?_;kernel_rfl;kernel_rfl)) <;> (try (conv=>whnf)))
  all_goals first
   | (exfalso;omega)
   | exact B9 rfl rfl
 rw [if_neg h1] at hG
 by_cases h2:5 < M.length
 ·rw [if_pos h2] at hG
  subst hG
  refine D1 Tryd.func46 51 fun hrd E h0=>?_
  have hlen:M.length ≤ 9223372036854775807:=by have:=(hrd (B7 M) (by simp)).sl;simpa using this
  clear hrd
  repeat' ((first|refine A5 ?_|refine S1 ?_|refine Z1 ?_|refine Z2 ?_|(refine And.intro ?_ ?_<;>intro h<;>try first|(exfalso;omega)|exact absurd rfl h)|refine Z3 ?_|refine Z4 ?_|intro el hel hbB|intro el hel|intro ex|refine Z5 ?_|(refine B0 ?_ ?_;exact ⟨by kernel_rfl,by decide⟩)|refine A9 ?_ ?_|exact A8|refine A7 ?_ ?_|exact A6|(refine A3 ?_ ?_ ?_;kernel_rfl;kernel_rfl)) <;> (try (conv=>whnf)))
  all_goals first
   | (exfalso;omega)
   | exact B9 rfl rfl
 rw [if_neg h2] at hG
 refine D1 Tryd.func46 51 fun hrd E h0=>?_
 have hlens:∀ r ∈ M,r.length ≤ 9223372036854775807:=fun r hr=>by
  have:=((hrd (B7 M) (by simp)).elem [B8 r] (List.mem_map.2 ⟨r,hr,rfl⟩) (B8 r) (by simp)).sl
  simpa using this
 clear hrd
 repeat' ((first|refine A5 ?_|refine S1 ?_|refine Z1 ?_|refine Z2 ?_|(refine And.intro ?_ ?_<;>intro h<;>try first|(exfalso;omega)|exact absurd rfl h)|refine Z3 ?_|refine Z4 ?_|intro el hel hbB|intro el hel|intro ex|refine Z5 ?_|(refine B0 ?_ ?_;exact ⟨by kernel_rfl,by decide⟩)|refine A9 ?_ ?_|exact A8|refine A7 ?_ ?_|exact A6|(refine A3 ?_ ?_ ?_;kernel_rfl;kernel_rfl)) <;> (try (conv=>whnf)))
 all_goals first
  | (exfalso;omega)
  | skip
 refine D7 (ι:=Nat) (fun k=>⟨[(0,B7 M),(17,B7 M),(18, .i M.length),(19, .i k)],0,[]⟩) (fun k=>k ≤ M.length ∧ ∀ (i:Nat) r,i < k → M[i]? = some r → r.length = M.length) (fun k=>M.length - k) 0 ⟨Nat.zero_le _,fun i r h=>absurd h (Nat.not_lt_zero _)⟩
  (B4 h0 rfl ⟨rfl,rfl,rfl,rfl,trivial⟩ trivial rfl rfl rfl) (fun k hI=>?_)
 obtain ⟨hk,hI⟩:=hI
 by_cases hkl:k < M.length
 ·obtain ⟨r,hr⟩:∃ r,M[k]? = some r:=⟨_,List.getElem?_eq_getElem hkl⟩
  have hr2:M[((k:Nat):Int).toNat]? = some r:=hr
  have hrl:=hlens r (List.mem_of_getElem? hr)
  by_cases hrn:r.length = M.length
  ·repeat' ((first | (refine B3 (x:=r) hr2 (by omega) ?_) |refine A5 ?_|refine S1 ?_|refine Z1 ?_|refine Z2 ?_|(refine And.intro ?_ ?_<;>intro h<;>try first|(exfalso;omega)|exact absurd rfl h)|refine Z3 ?_|refine Z4 ?_|intro el hel hbB|intro el hel|intro ex|refine Z5 ?_|(refine B0 ?_ ?_;exact ⟨by kernel_rfl,by decide⟩)|refine A9 ?_ ?_|exact A8|refine A7 ?_ ?_|exact A6|(refine A3 ?_ ?_ ?_;kernel_rfl;kernel_rfl)) <;> (try (conv=>whnf)))
   all_goals first
    | (exfalso;omega)
    | exact ⟨k + 1,⟨by omega,fun i r2 hi hq=>by
      by_cases e:i = k
      ·rw [e,hr] at hq;cases hq;exact hrn
      ·exact hI i r2 (by omega) hq⟩,by omega,B4 h0 rfl ⟨rfl,rfl,rfl,rfl,trivial⟩ trivial rfl rfl rfl⟩
  ·rw [HN hr (by simp [hrn])] at hG
   subst hG
   repeat' ((first | (refine B3 (x:=r) hr2 (by omega) ?_) |refine A5 ?_|refine S1 ?_|refine Z1 ?_|refine Z2 ?_|(refine And.intro ?_ ?_<;>intro h<;>try first|(exfalso;omega)|exact absurd rfl h)|refine Z3 ?_|refine Z4 ?_|intro el hel hbB|intro el hel|intro ex|refine Z5 ?_|(refine B0 ?_ ?_;exact ⟨by kernel_rfl,by decide⟩)|refine A9 ?_ ?_|exact A8|refine A7 ?_ ?_|exact A6|(refine A3 ?_ ?_ ?_;kernel_rfl;kernel_rfl)) <;> (try (conv=>whnf)))
   all_goals first
    | (exfalso;omega)
    | exact B9 rfl rfl
 have hkk:k = M.length:=by omega
 subst hkk
 rw [Mw fun i r hi hr=>by simp [hI i r hi hr]] at hG
 simp only [Bool.false_eq_true,if_false] at hG
 have hsq:∀ r ∈ M,r.length = M.length:=fun r hr=>by
  obtain ⟨i,hi⟩:=List.mem_iff_getElem?.1 hr
  exact hI i r (List.getElem?_eq_some_iff.1 hi).1 hi
 clear hI hlens
 repeat' ((first|refine A5 ?_|refine S1 ?_|refine Z1 ?_|refine Z2 ?_|(refine And.intro ?_ ?_<;>intro h<;>try first|(exfalso;omega)|exact absurd rfl h)|refine Z3 ?_|refine Z4 ?_|intro el hel hbB|intro el hel|intro ex|refine Z5 ?_|(refine B0 ?_ ?_;exact ⟨by kernel_rfl,by decide⟩)|refine A9 ?_ ?_|exact A8|refine A7 ?_ ?_|exact A6|(refine A3 ?_ ?_ ?_;kernel_rfl;kernel_rfl)) <;> (try (conv=>whnf)))
 all_goals first
  | (exfalso;omega)
  | skip
 refine D7 (ι:=Nat) (fun k=>⟨[(0,B7 M),(29,B7 M),(30, .i M.length),(31, .i k)],0,[]⟩) (fun k=>k ≤ M.length ∧ ∀ (i:Nat) r,i < k → M[i]? = some r → ∀ x ∈ r, -2147483648 ≤ x ∧ x ≤ 2147483648) (fun k=>M.length - k) 0 ⟨Nat.zero_le _,fun i r h=>absurd h (Nat.not_lt_zero _)⟩
  (B4 h0 rfl ⟨rfl,rfl,rfl,rfl,trivial⟩ trivial rfl rfl rfl) (fun k hI=>?_)
 obtain ⟨hk,hI⟩:=hI
 by_cases hkl:k < M.length
 ·obtain ⟨r,hr⟩:∃ r,M[k]? = some r:=⟨_,List.getElem?_eq_getElem hkl⟩
  have hr2:M[((k:Nat):Int).toNat]? = some r:=hr
  have hrl:=hsq r (List.mem_of_getElem? hr)
  repeat' ((first | (refine B3 (x:=r) hr2 (by omega) ?_) |refine A5 ?_|refine S1 ?_|refine Z1 ?_|refine Z2 ?_|(refine And.intro ?_ ?_<;>intro h<;>try first|(exfalso;omega)|exact absurd rfl h)|refine Z3 ?_|refine Z4 ?_|intro el hel hbB|intro el hel|intro ex|refine Z5 ?_|(refine B0 ?_ ?_;exact ⟨by kernel_rfl,by decide⟩)|refine A9 ?_ ?_|exact A8|refine A7 ?_ ?_|exact A6|(refine A3 ?_ ?_ ?_;kernel_rfl;kernel_rfl)) <;> (try (conv=>whnf)))
  all_goals first
   | (exfalso;omega)
   | skip
  refine D7 (ι:=Nat) (fun j=>⟨[(0,B7 M),(29,B7 M),(30, .i M.length),(31, .i k),(35,B8 r),(36, .i r.length),(37, .i j)],0,[]⟩) (fun j=>j ≤ r.length ∧ ∀ (i:Nat) x,i < j → r[i]? = some x → -2147483648 ≤ x ∧ x ≤ 2147483648) (fun j=>r.length - j) 0 ⟨Nat.zero_le _,fun i r h=>absurd h (Nat.not_lt_zero _)⟩
   (B4 h0 rfl ⟨rfl,rfl,rfl,rfl,rfl,rfl,rfl,trivial⟩ trivial rfl rfl rfl) (fun j hJ=>?_)
  obtain ⟨hj,hJ⟩:=hJ
  by_cases hjl:j < r.length
  ·obtain ⟨x,hx⟩:∃ x,r[j]? = some x:=⟨_,List.getElem?_eq_getElem hjl⟩
   have hx2:r[((j:Nat):Int).toNat]? = some x:=hx
   by_cases hxb:-2147483648 ≤ x ∧ x ≤ 2147483648
   ·repeat' ((first | (refine B3 (x:=x) hx2 (by omega) ?_) |refine A5 ?_|refine S1 ?_|refine Z1 ?_|refine Z2 ?_|(refine And.intro ?_ ?_<;>intro h<;>try first|(exfalso;omega)|exact absurd rfl h)|refine Z3 ?_|refine Z4 ?_|intro el hel hbB|intro el hel|intro ex|refine Z5 ?_|(refine B0 ?_ ?_;exact ⟨by kernel_rfl,by decide⟩)|refine A9 ?_ ?_|exact A8|refine A7 ?_ ?_|exact A6|(refine A3 ?_ ?_ ?_;kernel_rfl;kernel_rfl)) <;> (try (conv=>whnf)))
    all_goals first
     | (exfalso;omega)
     | exact ⟨j + 1,⟨by omega,fun i y hi hy=>by
       by_cases e:i = j
       ·rw [e,hx] at hy;cases hy;exact hxb
       ·exact hJ i y (by omega) hy⟩,by omega,B4 h0 rfl ⟨rfl,rfl,rfl,rfl,rfl,rfl,rfl,trivial⟩ trivial rfl rfl rfl⟩
   ·rw [HN hr (HN hx (by simp;omega)),if_pos rfl] at hG
    subst hG
    repeat' ((first | (refine B3 (x:=x) hx2 (by omega) ?_) |refine A5 ?_|refine S1 ?_|refine Z1 ?_|refine Z2 ?_|(refine And.intro ?_ ?_<;>intro h<;>try first|(exfalso;omega)|exact absurd rfl h)|refine Z3 ?_|refine Z4 ?_|intro el hel hbB|intro el hel|intro ex|refine Z5 ?_|(refine B0 ?_ ?_;exact ⟨by kernel_rfl,by decide⟩)|refine A9 ?_ ?_|exact A8|refine A7 ?_ ?_|exact A6|(refine A3 ?_ ?_ ?_;kernel_rfl;kernel_rfl)) <;> (try (conv=>whnf)))
    all_goals first
     | (exfalso;omega)
     | exact B9 rfl rfl
  ·have hjj:j = r.length:=by omega
   subst hjj
   have hrx:∀ x ∈ r, -2147483648 ≤ x ∧ x ≤ 2147483648:=fun x hx=>by
    obtain ⟨i,hi⟩:=List.mem_iff_getElem?.1 hx
    exact hJ i x (List.getElem?_eq_some_iff.1 hi).1 hi
   repeat' ((first|refine A5 ?_|refine S1 ?_|refine Z1 ?_|refine Z2 ?_|(refine And.intro ?_ ?_<;>intro h<;>try first|(exfalso;omega)|exact absurd rfl h)|refine Z3 ?_|refine Z4 ?_|intro el hel hbB|intro el hel|intro ex|refine Z5 ?_|(refine B0 ?_ ?_;exact ⟨by kernel_rfl,by decide⟩)|refine A9 ?_ ?_|exact A8|refine A7 ?_ ?_|exact A6|(refine A3 ?_ ?_ ?_;kernel_rfl;kernel_rfl)) <;> (try (conv=>whnf)))
   all_goals first
    | (exfalso;omega)
    | exact ⟨k + 1,⟨by omega,fun i r2 hi hq=>by
      by_cases e:i = k
      ·rw [e,hr] at hq;cases hq;exact hrx
      ·exact hI i r2 (by omega) hq⟩,by omega,B4 h0 rfl ⟨rfl,rfl,rfl,rfl,trivial⟩ trivial rfl rfl rfl⟩
 have hkk:k = M.length:=by omega
 subst hkk
 have hall:∀ r ∈ M,∀ x ∈ r, -2147483648 ≤ x ∧ x ≤ 2147483648:=fun r hr=>by
  obtain ⟨i,hi⟩:=List.mem_iff_getElem?.1 hr
  exact hI i r (List.getElem?_eq_some_iff.1 hi).1 hi
 rw [R4 fun r hr=>R4 fun x hx=>by have:=hall r hr x hx;simp;omega] at hG
 simp only [Bool.false_eq_true,if_false] at hG
 have hL:=Jp M (fun r hr=>by rw [hsq r hr];omega) (by omega) hall
 clear hI hall hsq
 by_cases hb:J5 < I4 M
 ·rw [if_pos hb] at hG
  rw [decide_eq_true hb] at hL
  subst hG
  repeat' ((first | refine A4 hL ?_ |refine A5 ?_|refine S1 ?_|refine Z1 ?_|refine Z2 ?_|(refine And.intro ?_ ?_<;>intro h<;>try first|(exfalso;omega)|exact absurd rfl h)|refine Z3 ?_|refine Z4 ?_|intro el hel hbB|intro el hel|intro ex|refine Z5 ?_|(refine B0 ?_ ?_;exact ⟨by kernel_rfl,by decide⟩)|refine A9 ?_ ?_|exact A8|refine A7 ?_ ?_|exact A6|(refine A3 ?_ ?_ ?_;kernel_rfl;kernel_rfl)) <;> (try (conv=>whnf)))
  all_goals first
   | (exfalso;omega)
   | exact B9 rfl rfl
 ·rw [if_neg hb] at hG
  rw [decide_eq_false hb] at hL
  subst hG
  repeat' ((first | refine A4 hL ?_ |refine A5 ?_|refine S1 ?_|refine Z1 ?_|refine Z2 ?_|(refine And.intro ?_ ?_<;>intro h<;>try first|(exfalso;omega)|exact absurd rfl h)|refine Z3 ?_|refine Z4 ?_|intro el hel hbB|intro el hel|intro ex|refine Z5 ?_|(refine B0 ?_ ?_;exact ⟨by kernel_rfl,by decide⟩)|refine A9 ?_ ?_|exact A8|refine A7 ?_ ?_|exact A6|(refine A3 ?_ ?_ ?_;kernel_rfl;kernel_rfl)) <;> (try (conv=>whnf)))
  all_goals first
   | (exfalso;omega)
   | exact B9 rfl rfl
end Go.Proofs.YtbhegmcbpolemaaDoor

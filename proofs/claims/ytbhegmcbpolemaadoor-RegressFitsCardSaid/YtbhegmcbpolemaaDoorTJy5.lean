/- The reference's size and first error of a matrix. -/
import Derived.Test.YtbhegmcbpolemaaDoorTJy3
import Derived.Test.YtbhegmcbpolemaaDoorTJl5
set_option linter.unusedVariables false
set_option linter.unnecessarySimpa false
set_option linter.unusedSimpArgs false
namespace Go.Proofs.YtbhegmcbpolemaaDoor
open Go Go.Av
attribute [local irreducible] E4 B6 F1 E7 DQ F6 F9 St.le B5 D4
set_option maxRecDepth 100000
set_option maxHeartbeats 16000000 in
theorem KA (M:List (List Int)) (hn:∀ r ∈ M,r.length ≤ 5) (hl:M.length ≤ 1000) (hx:∀ r ∈ M,∀ x ∈ r, -2147483648 ≤ x ∧ x ≤ 2147483648):B5 Tryd.prog 66 [B7 M] (.b (decide (I4 M ≤ J5))):=by
 have h1:=U9 1 (by decide) (by decide)
 generalize hG:decide (I4 M ≤ J5) = G
 have hW:D6 ((1329227995784915872903807060280344576:Nat):Int) = .agg [uA 72057594037927936,uA 0]:=by
  unfold D6;rw [show C2 ((1329227995784915872903807060280344576:Nat):Int) = 72057594037927936 by decide,show C1 ((1329227995784915872903807060280344576:Nat):Int) = 0 by decide]
 refine D1 Tryd.func66 61 fun hrd E h0=>?_
 clear hrd
 repeat' ((first | refine A4 h1 ?_ |refine A5 ?_|refine S1 ?_|refine Z1 ?_|refine Z2 ?_|(refine And.intro ?_ ?_<;>intro h<;>try first|(exfalso;omega)|exact absurd rfl h)|refine Z3 ?_|refine Z4 ?_|intro el hel hbB|intro el hel|intro ex|refine Z5 ?_|(refine B0 ?_ ?_;exact ⟨by kernel_rfl,by decide⟩)|refine A9 ?_ ?_|exact A8|refine A7 ?_ ?_|exact A6|(refine A3 ?_ ?_ ?_;kernel_rfl;kernel_rfl)) <;> (try (conv=>whnf)))
 refine D7 (ι:=Nat × Nat) (fun s=>⟨[(0,B7 M),(3, .iptr [uA 72057594037927936,uA 0]),(4, .ref 1 0),(5, .i s.1)],2,[(1,some (.box (D3 s.2)))]⟩) (fun s=>s.1 ≤ M.length ∧ 1 ≤ s.2 ∧ (s.2:Int) ≤ J5 ∧ I4 (M.take s.1) = s.2) (fun s=>M.length - s.1) (0,1) ⟨Nat.zero_le _,Nat.le_refl _,by decide,by rw [List.take_zero];rfl⟩
  (B4 h0 rfl ⟨rfl,rfl,rfl,rfl,trivial⟩ ⟨rfl,trivial⟩ rfl rfl rfl) (fun s hI=>?_)
 obtain ⟨i,Z⟩:=s
 obtain ⟨i1,i2,i3,i4⟩:=hI
 dsimp only at i1 i2 i3 i4 ⊢
 by_cases hi:i < M.length
 rotate_left
 ·have hii:i = M.length:=by omega
  subst hii
  rw [List.take_length] at i4
  rw [decide_eq_true (by rw [i4];exact i3)] at hG
  subst hG
  repeat' ((first|refine A5 ?_|refine S1 ?_|refine Z1 ?_|refine Z2 ?_|(refine And.intro ?_ ?_<;>intro h<;>try first|(exfalso;omega)|exact absurd rfl h)|refine Z3 ?_|refine Z4 ?_|intro el hel hbB|intro el hel|intro ex|refine Z5 ?_|(refine B0 ?_ ?_;exact ⟨by kernel_rfl,by decide⟩)|refine A9 ?_ ?_|exact A8|refine A7 ?_ ?_|exact A6|(refine A3 ?_ ?_ ?_;kernel_rfl;kernel_rfl)) <;> (try (conv=>whnf)))
  all_goals first
   | (exfalso;omega)
   | exact B9 rfl rfl
 obtain ⟨R,hR⟩:∃ R,M[i]? = some R:=⟨_,List.getElem?_eq_getElem hi⟩
 have hR2:M[((i:Nat):Int).toNat]? = some R:=hR
 have hRm:=List.mem_of_getElem? hR
 have hRl:=hn R hRm
 have hRx:=hx R hRm
 have hab:=Ol hRx
 have hap:=HL R
 have hnx:=Jy hR
 have hle:=Hc M (i + 1)
 rw [i4] at hnx
 repeat' ((first|refine A5 ?_|refine S1 ?_|refine Z1 ?_|refine Z2 ?_|(refine And.intro ?_ ?_<;>intro h<;>try first|(exfalso;omega)|exact absurd rfl h)|refine Z3 ?_|refine Z4 ?_|intro el hel hbB|intro el hel|intro ex|refine Z5 ?_|(refine B0 ?_ ?_;exact ⟨by kernel_rfl,by decide⟩)|refine A9 ?_ ?_|exact A8|refine A7 ?_ ?_|exact A6|(refine A3 ?_ ?_ ?_;kernel_rfl;kernel_rfl)) <;> (try (conv=>whnf)))
 all_goals first
  | (exfalso;omega)
  | skip
 refine D7 (ι:=Nat × Int) (fun s=>⟨[(0,B7 M),(3, .iptr [uA 72057594037927936,uA 0]),(4, .ref 1 0),(5, .i i),(6, .i s.2),(7, .i s.1)],2,[(1,some (.box (D3 Z)))]⟩) (fun s=>s.1 ≤ R.length ∧ 0 ≤ s.2 ∧ s.2 ≤ 2147483648 * s.1 ∧ s.2 + K0 (R.drop s.1) = K0 R) (fun s=>R.length - s.1) (0,0) ⟨Nat.zero_le _,Int.le_refl _,by dsimp only;omega,by dsimp only;rw [List.drop_zero];omega⟩
  (B4 h0 rfl ⟨rfl,rfl,rfl,rfl,rfl,rfl,trivial⟩ ⟨rfl,trivial⟩ rfl rfl rfl) (fun s hI=>?_)
 obtain ⟨k,S⟩:=s
 obtain ⟨j1,j2,j3,j4⟩:=hI
 dsimp only at j1 j2 j3 j4 ⊢
 by_cases hk:k < R.length
 ·obtain ⟨x,hxk⟩:∃ x,R[k]? = some x:=⟨_,List.getElem?_eq_getElem hk⟩
  have hxk2:R[((k:Nat):Int).toNat]? = some x:=hxk
  have hxb:=hRx x (List.mem_of_getElem? hxk)
  rw [Fe hxk] at j4
  repeat' ((first | (refine B3 (x:=R) hR2 (by omega) ?_) | (refine B3 (x:=x) hxk2 (by omega) ?_) | (refine M3 ?_ ?_;kernel_rfl) |refine A5 ?_|refine S1 ?_|refine Z1 ?_|refine Z2 ?_|(refine And.intro ?_ ?_<;>intro h<;>try first|(exfalso;omega)|exact absurd rfl h)|refine Z3 ?_|refine Z4 ?_|intro el hel hbB|intro el hel|intro ex|refine Z5 ?_|(refine B0 ?_ ?_;exact ⟨by kernel_rfl,by decide⟩)|refine A9 ?_ ?_|exact A8|refine A7 ?_ ?_|exact A6|(refine A3 ?_ ?_ ?_;kernel_rfl;kernel_rfl)) <;> (try (conv=>whnf)))
  all_goals first
   | (exfalso;omega)
   | exact ⟨(k + 1,S + max x (-x)),⟨by dsimp only;omega,by dsimp only;omega,by dsimp only;omega,by dsimp only;omega⟩,by dsimp only;omega,B4 h0 rfl ⟨rfl,rfl,rfl,rfl,rfl,rfl,trivial⟩ ⟨rfl,trivial⟩ rfl rfl rfl⟩
 have hkk:k = R.length:=by omega
 subst hkk
 rw [List.drop_length,K0,Int.add_zero] at j4
 subst j4
 obtain ⟨n,hn1⟩:∃ n:Nat,K0 R = n:=⟨(K0 R).toNat,by omega⟩
 rw [hn1]
 by_cases hn0:n = 0
 ·subst hn0
  have hs1:b9 R = 1:=by unfold b9;omega
  rw [hs1,Int.mul_one] at hnx
  repeat' ((first | (refine B3 (x:=R) hR2 (by omega) ?_) |refine A5 ?_|refine S1 ?_|refine Z1 ?_|refine Z2 ?_|(refine And.intro ?_ ?_<;>intro h<;>try first|(exfalso;omega)|exact absurd rfl h)|refine Z3 ?_|refine Z4 ?_|intro el hel hbB|intro el hel|intro ex|refine Z5 ?_|(refine B0 ?_ ?_;exact ⟨by kernel_rfl,by decide⟩)|refine A9 ?_ ?_|exact A8|refine A7 ?_ ?_|exact A6|(refine A3 ?_ ?_ ?_;kernel_rfl;kernel_rfl)) <;> (try (conv=>whnf)))
  all_goals first
   | (exfalso;omega)
   | exact ⟨(i + 1,Z),⟨by dsimp only;omega,i2,i3,hnx⟩,by dsimp only;omega,B4 h0 rfl ⟨rfl,rfl,rfl,rfl,trivial⟩ ⟨rfl,trivial⟩ rfl rfl rfl⟩
 have hs1:b9 R = n:=by unfold b9;omega
 rw [hs1] at hnx
 have hn32:(n:Int) ≤ 10737418240:=by omega
 have i3':(Z:Int) ≤ 1329227995784915872903807060280344576:=i3
 have c1:=U9 n (by omega) (by omega)
 have c2:=o9 1329227995784915872903807060280344576 n (by omega) (by omega) (by omega)
 rw [hW] at c2
 have hq:1329227995784915872903807060280344576 / n < Z ↔ 1329227995784915872903807060280344576 < Z * n:=Nat.div_lt_iff_lt_mul (by omega)
 have hqb:1329227995784915872903807060280344576 / n ≤ 1329227995784915872903807060280344576:=Nat.div_le_self _ _
 generalize 1329227995784915872903807060280344576 / n = q at *
 generalize 1329227995784915872903807060280344576 % n = u at *
 have c3:=k8 q Z (by omega) (by omega)
 have c4:=Cw (Z:Int) n
 have hzn:(Z:Int) * n = ((Z * n:Nat):Int):=(Int.natCast_mul Z n).symm
 rw [hzn] at c4 hnx
 have hpos:1 ≤ Z * n:=Nat.mul_pos i2 (by omega)
 generalize Z * n = Z2 at *
 by_cases hlt:q < Z
 ·rw [decide_eq_true hlt] at c3
  have h3:=hq.1 hlt
  rw [decide_eq_false (by unfold J5;omega)] at hG
  subst hG
  repeat' ((first | (refine B3 (x:=R) hR2 (by omega) ?_) | refine A4 c1 ?_ | refine A4 c2 ?_ | refine A4 c3 ?_ | (refine F5 (id:=11) ⟨[(0,B7 M),(3, .iptr [uA 72057594037927936,uA 0]),(4, .ref 1 0),(5, .i i),(6, .i n),(8, .iptr (D3 q))],4,[(1,some (.box (D3 Z)))]⟩ ?_ ?_) |refine A5 ?_|refine S1 ?_|refine Z1 ?_|refine Z2 ?_|(refine And.intro ?_ ?_<;>intro h<;>try first|(exfalso;omega)|exact absurd rfl h)|refine Z3 ?_|refine Z4 ?_|intro el hel hbB|intro el hel|intro ex|refine Z5 ?_|(refine B0 ?_ ?_;exact ⟨by kernel_rfl,by decide⟩)|refine A9 ?_ ?_|exact A8|refine A7 ?_ ?_|exact A6|(refine A3 ?_ ?_ ?_;kernel_rfl;kernel_rfl)) <;> (try (conv=>whnf)))
  all_goals first
   | (exfalso;omega)
   | exact B4 h0 rfl ⟨rfl,rfl,rfl,rfl,rfl,rfl,trivial⟩ ⟨rfl,trivial⟩ rfl rfl rfl
   | exact B9 rfl rfl
 ·rw [decide_eq_false hlt] at c3
  have h3:¬ 1329227995784915872903807060280344576 < Z2:=fun h=>hlt (hq.2 h)
  repeat' ((first | (refine B3 (x:=R) hR2 (by omega) ?_) | refine A4 c1 ?_ | refine A4 c2 ?_ | refine A4 c3 ?_ | refine A4 c4 ?_ | (refine F5 (id:=11) ⟨[(0,B7 M),(3, .iptr [uA 72057594037927936,uA 0]),(4, .ref 1 0),(5, .i i),(6, .i n),(8, .iptr (D3 q))],4,[(1,some (.box (D3 Z)))]⟩ ?_ ?_) | (refine F5 (id:=14) ⟨[(0,B7 M),(3, .iptr [uA 72057594037927936,uA 0]),(4, .ref 1 0),(5, .i i)],4,[(1,some (.box (D3 Z2)))]⟩ ?_ ?_) |refine A5 ?_|refine S1 ?_|refine Z1 ?_|refine Z2 ?_|(refine And.intro ?_ ?_<;>intro h<;>try first|(exfalso;omega)|exact absurd rfl h)|refine Z3 ?_|refine Z4 ?_|intro el hel hbB|intro el hel|intro ex|refine Z5 ?_|(refine B0 ?_ ?_;exact ⟨by kernel_rfl,by decide⟩)|refine A9 ?_ ?_|exact A8|refine A7 ?_ ?_|exact A6|(refine A3 ?_ ?_ ?_;kernel_rfl;kernel_rfl)) <;> (try (conv=>whnf)))
  all_goals first
   | (exfalso;omega)
   | exact B4 h0 rfl ⟨rfl,rfl,rfl,rfl,rfl,rfl,trivial⟩ ⟨rfl,trivial⟩ rfl rfl rfl
   | exact B4 h0 rfl ⟨rfl,rfl,rfl,rfl,trivial⟩ ⟨rfl,trivial⟩ rfl rfl rfl
   | exact ⟨(i + 1,Z2),⟨by dsimp only;omega,hpos,by dsimp only;unfold J5;omega,hnx⟩,by dsimp only;omega,B4 h0 rfl ⟨rfl,rfl,rfl,rfl,trivial⟩ ⟨rfl,trivial⟩ rfl rfl rfl⟩
theorem DU {α:Type} {l:List α} {p:α → Bool} {x:α} (h:x ∈ l) (hp:p x = true):l.any p = true:=List.any_eq_true.2 ⟨x,h,hp⟩
theorem NU {a:List (List Int)} (h1:a.length ≠ 0) (h2:a.length ≤ 5) {r:List Int} (hr:r ∈ a) (h:r.length ≠ a.length):F0 a = 17:=by
 unfold F0
 rw [if_neg h1,if_neg (by omega),if_pos (DU hr (by simp [h]))]
theorem NV {a:List (List Int)} (h1:a.length ≠ 0) (h2:a.length ≤ 5) (hl:∀ r ∈ a,r.length = a.length) {r:List Int} {x:Int} (hr:r ∈ a) (hx:x ∈ r) (h:x < -2147483648 ∨ 2147483648 < x):F0 a = 2:=by
 unfold F0
 rw [if_neg h1,if_neg (by omega),if_neg (by rw [R4 fun r h=>by simp [hl r h]];simp),if_pos (DU hr (DU hx (by simp [h])))]
theorem NW {a:List (List Int)} (h1:a.length ≠ 0) (h2:a.length ≤ 5) (hl:∀ r ∈ a,r.length = a.length) (hx:∀ r ∈ a,∀ x ∈ r, -2147483648 ≤ x ∧ x ≤ 2147483648):F0 a = if I4 a ≤ J5 then 0 else 14:=by
 unfold F0
 rw [if_neg h1,if_neg (by omega),if_neg (by rw [R4 fun r h=>by simp [hl r h]];simp),if_neg (by rw [R4 fun r h=>R4 fun x hx'=>by have:=hx r h x hx';simp;omega];simp)]
 by_cases h:I4 a ≤ J5
 ·rw [if_neg (by unfold J5 at h;omega),if_pos h]
 ·rw [if_pos (by unfold J5 at h;omega),if_neg h]
set_option maxHeartbeats 16000000 in
theorem y7 (a:List (List Int)):B5 Tryd.prog 50 [B7 a] (.i (F0 a)):=by
 generalize hG:F0 a = G
 refine D1 Tryd.func50 59 fun hrd E h0=>?_
 have hlen:a.length ≤ 9223372036854775807:=by
  have:=(hrd (B7 a) (by simp)).sl
  simpa using this
 clear hrd
 by_cases h1:a.length = 0
 ·have:F0 a = 18:=by unfold F0;rw [if_pos h1]
  rw [this] at hG
  subst hG
  repeat' ((first|refine A5 ?_|refine S1 ?_|refine Z1 ?_|refine Z2 ?_|(refine And.intro ?_ ?_<;>intro h<;>try first|(exfalso;omega)|exact absurd rfl h)|refine Z3 ?_|refine Z4 ?_|intro el hel hbB|intro el hel|intro ex|refine Z5 ?_|(refine B0 ?_ ?_;exact ⟨by kernel_rfl,by decide⟩)|refine A9 ?_ ?_|exact A8|refine A7 ?_ ?_|exact A6|(refine A3 ?_ ?_ ?_;kernel_rfl;kernel_rfl)) <;> (try (conv=>whnf)))
  all_goals first
   | (exfalso;omega)
   | exact B9 rfl rfl
 by_cases h2:5 < a.length
 ·have:F0 a = 1:=by unfold F0;rw [if_neg h1,if_pos h2]
  rw [this] at hG
  subst hG
  repeat' ((first|refine A5 ?_|refine S1 ?_|refine Z1 ?_|refine Z2 ?_|(refine And.intro ?_ ?_<;>intro h<;>try first|(exfalso;omega)|exact absurd rfl h)|refine Z3 ?_|refine Z4 ?_|intro el hel hbB|intro el hel|intro ex|refine Z5 ?_|(refine B0 ?_ ?_;exact ⟨by kernel_rfl,by decide⟩)|refine A9 ?_ ?_|exact A8|refine A7 ?_ ?_|exact A6|(refine A3 ?_ ?_ ?_;kernel_rfl;kernel_rfl)) <;> (try (conv=>whnf)))
  all_goals first
   | (exfalso;omega)
   | exact B9 rfl rfl
 repeat' ((first|refine A5 ?_|refine S1 ?_|refine Z1 ?_|refine Z2 ?_|(refine And.intro ?_ ?_<;>intro h<;>try first|(exfalso;omega)|exact absurd rfl h)|refine Z3 ?_|refine Z4 ?_|intro el hel hbB|intro el hel|intro ex|refine Z5 ?_|(refine B0 ?_ ?_;exact ⟨by kernel_rfl,by decide⟩)|refine A9 ?_ ?_|exact A8|refine A7 ?_ ?_|exact A6|(refine A3 ?_ ?_ ?_;kernel_rfl;kernel_rfl)) <;> (try (conv=>whnf)))
 all_goals first
  | (exfalso;omega)
  | skip
 refine D7 (ι:=Nat) (fun i=>⟨[(0,B7 a),(3, .i i)],0,[]⟩) (fun i=>i ≤ a.length ∧ ∀ j r,j < i → a[j]? = some r → r.length = a.length) (fun i=>a.length - i) 0 ⟨Nat.zero_le _,fun j r h=>absurd h (Nat.not_lt_zero _)⟩
  (B4 h0 rfl ⟨rfl,rfl,trivial⟩ trivial rfl rfl rfl) (fun i hI=>?_)
 obtain ⟨hi,hI⟩:=hI
 by_cases hin:i < a.length
 ·obtain ⟨r,hr⟩:∃ r,a[i]? = some r:=⟨_,List.getElem?_eq_getElem hin⟩
  have hr2:a[((i:Nat):Int).toNat]? = some r:=hr
  by_cases hrl:r.length = a.length
  ·repeat' ((first | (refine B3 (x:=r) hr2 (by omega) ?_) |refine A5 ?_|refine S1 ?_|refine Z1 ?_|refine Z2 ?_|(refine And.intro ?_ ?_<;>intro h<;>try first|(exfalso;omega)|exact absurd rfl h)|refine Z3 ?_|refine Z4 ?_|intro el hel hbB|intro el hel|intro ex|refine Z5 ?_|(refine B0 ?_ ?_;exact ⟨by kernel_rfl,by decide⟩)|refine A9 ?_ ?_|exact A8|refine A7 ?_ ?_|exact A6|(refine A3 ?_ ?_ ?_;kernel_rfl;kernel_rfl)) <;> (try (conv=>whnf)))
   all_goals first
    | (exfalso;omega)
    | (exfalso;exact h (congrArg (fun z:Nat=>(z:Int)) hrl))
    | exact ⟨i + 1,⟨by omega,fun j q hj hq=>by
      by_cases e:j = i
      ·subst e;rw [hr] at hq;cases hq;exact hrl
      ·exact hI j q (by omega) hq⟩,by omega,B4 h0 rfl ⟨rfl,rfl,trivial⟩ trivial rfl rfl rfl⟩
  ·rw [NU h1 (by omega) (List.mem_of_getElem? hr) hrl] at hG
   subst hG
   repeat' ((first | (refine B3 (x:=r) hr2 (by omega) ?_) |refine A5 ?_|refine S1 ?_|refine Z1 ?_|refine Z2 ?_|(refine And.intro ?_ ?_<;>intro h<;>try first|(exfalso;omega)|exact absurd rfl h)|refine Z3 ?_|refine Z4 ?_|intro el hel hbB|intro el hel|intro ex|refine Z5 ?_|(refine B0 ?_ ?_;exact ⟨by kernel_rfl,by decide⟩)|refine A9 ?_ ?_|exact A8|refine A7 ?_ ?_|exact A6|(refine A3 ?_ ?_ ?_;kernel_rfl;kernel_rfl)) <;> (try (conv=>whnf)))
   all_goals first
    | (exfalso;omega)
    | exact B9 rfl rfl
 have hii:i = a.length:=by omega
 subst hii
 have hall:∀ r ∈ a,r.length = a.length:=fun r h=>by
  obtain ⟨j,hj⟩:=List.mem_iff_getElem?.1 h
  exact hI j r (List.getElem?_eq_some_iff.1 hj).1 hj
 clear hI
 repeat' ((first|refine A5 ?_|refine S1 ?_|refine Z1 ?_|refine Z2 ?_|(refine And.intro ?_ ?_<;>intro h<;>try first|(exfalso;omega)|exact absurd rfl h)|refine Z3 ?_|refine Z4 ?_|intro el hel hbB|intro el hel|intro ex|refine Z5 ?_|(refine B0 ?_ ?_;exact ⟨by kernel_rfl,by decide⟩)|refine A9 ?_ ?_|exact A8|refine A7 ?_ ?_|exact A6|(refine A3 ?_ ?_ ?_;kernel_rfl;kernel_rfl)) <;> (try (conv=>whnf)))
 all_goals first
  | (exfalso;omega)
  | skip
 refine D7 (ι:=Nat) (fun i=>⟨[(0,B7 a),(4, .i i)],0,[]⟩) (fun i=>i ≤ a.length ∧ ∀ j r,j < i → a[j]? = some r → ∀ x ∈ r, -2147483648 ≤ x ∧ x ≤ 2147483648) (fun i=>a.length - i) 0 ⟨Nat.zero_le _,fun j r h=>absurd h (Nat.not_lt_zero _)⟩
  (B4 h0 rfl ⟨rfl,rfl,trivial⟩ trivial rfl rfl rfl) (fun i hI=>?_)
 obtain ⟨hi,hI⟩:=hI
 by_cases hin:i < a.length
 ·obtain ⟨r,hr⟩:∃ r,a[i]? = some r:=⟨_,List.getElem?_eq_getElem hin⟩
  have hr2:a[((i:Nat):Int).toNat]? = some r:=hr
  have hrl:=hall r (List.mem_of_getElem? hr)
  repeat' ((first|refine A5 ?_|refine S1 ?_|refine Z1 ?_|refine Z2 ?_|(refine And.intro ?_ ?_<;>intro h<;>try first|(exfalso;omega)|exact absurd rfl h)|refine Z3 ?_|refine Z4 ?_|intro el hel hbB|intro el hel|intro ex|refine Z5 ?_|(refine B0 ?_ ?_;exact ⟨by kernel_rfl,by decide⟩)|refine A9 ?_ ?_|exact A8|refine A7 ?_ ?_|exact A6|(refine A3 ?_ ?_ ?_;kernel_rfl;kernel_rfl)) <;> (try (conv=>whnf)))
  all_goals first
   | (exfalso;omega)
   | skip
  refine D7 (ι:=Nat) (fun k=>⟨[(0,B7 a),(4, .i i),(5, .i k)],0,[]⟩) (fun k=>k ≤ a.length ∧ ∀ j x,j < k → r[j]? = some x → -2147483648 ≤ x ∧ x ≤ 2147483648) (fun k=>a.length - k) 0 ⟨Nat.zero_le _,fun j r h=>absurd h (Nat.not_lt_zero _)⟩
   (B4 h0 rfl ⟨rfl,rfl,rfl,trivial⟩ trivial rfl rfl rfl) (fun k hJ=>?_)
  obtain ⟨hk,hJ⟩:=hJ
  by_cases hkn:k < a.length
  ·obtain ⟨x,hx⟩:∃ x,r[k]? = some x:=⟨_,List.getElem?_eq_getElem (by omega)⟩
   have hx2:r[((k:Nat):Int).toNat]? = some x:=hx
   by_cases hxb:x < -2147483648 ∨ 2147483648 < x
   ·rw [NV h1 (by omega) hall (List.mem_of_getElem? hr) (List.mem_of_getElem? hx) hxb] at hG
    subst hG
    repeat' ((first | (refine B3 (x:=r) hr2 (by omega) ?_) | (refine B3 (x:=x) hx2 (by omega) ?_) | (refine M3 ?_ ?_;kernel_rfl) |refine A5 ?_|refine S1 ?_|refine Z1 ?_|refine Z2 ?_|(refine And.intro ?_ ?_<;>intro h<;>try first|(exfalso;omega)|exact absurd rfl h)|refine Z3 ?_|refine Z4 ?_|intro el hel hbB|intro el hel|intro ex|refine Z5 ?_|(refine B0 ?_ ?_;exact ⟨by kernel_rfl,by decide⟩)|refine A9 ?_ ?_|exact A8|refine A7 ?_ ?_|exact A6|(refine A3 ?_ ?_ ?_;kernel_rfl;kernel_rfl)) <;> (try (conv=>whnf)))
    all_goals first
     | (exfalso;omega)
     | exact B9 rfl rfl
   ·repeat' ((first | (refine B3 (x:=r) hr2 (by omega) ?_) | (refine B3 (x:=x) hx2 (by omega) ?_) | (refine M3 ?_ ?_;kernel_rfl) |refine A5 ?_|refine S1 ?_|refine Z1 ?_|refine Z2 ?_|(refine And.intro ?_ ?_<;>intro h<;>try first|(exfalso;omega)|exact absurd rfl h)|refine Z3 ?_|refine Z4 ?_|intro el hel hbB|intro el hel|intro ex|refine Z5 ?_|(refine B0 ?_ ?_;exact ⟨by kernel_rfl,by decide⟩)|refine A9 ?_ ?_|exact A8|refine A7 ?_ ?_|exact A6|(refine A3 ?_ ?_ ?_;kernel_rfl;kernel_rfl)) <;> (try (conv=>whnf)))
    all_goals first
     | (exfalso;omega)
     | exact ⟨k + 1,⟨by omega,fun j q hj hq=>by
       by_cases e:j = k
       ·subst e;rw [hx] at hq;cases hq;omega
       ·exact hJ j q (by omega) hq⟩,by omega,B4 h0 rfl ⟨rfl,rfl,rfl,trivial⟩ trivial rfl rfl rfl⟩
  ·have hkk:k = a.length:=by omega
   subst hkk
   repeat' ((first|refine A5 ?_|refine S1 ?_|refine Z1 ?_|refine Z2 ?_|(refine And.intro ?_ ?_<;>intro h<;>try first|(exfalso;omega)|exact absurd rfl h)|refine Z3 ?_|refine Z4 ?_|intro el hel hbB|intro el hel|intro ex|refine Z5 ?_|(refine B0 ?_ ?_;exact ⟨by kernel_rfl,by decide⟩)|refine A9 ?_ ?_|exact A8|refine A7 ?_ ?_|exact A6|(refine A3 ?_ ?_ ?_;kernel_rfl;kernel_rfl)) <;> (try (conv=>whnf)))
   all_goals first
    | (exfalso;omega)
    | exact ⟨i + 1,⟨by omega,fun j q hj hq=>by
      by_cases e:j = i
      ·subst e;rw [hr] at hq;cases hq
       intro x hxm
       obtain ⟨m,hm⟩:=List.mem_iff_getElem?.1 hxm
       exact hJ m x (by have:=(List.getElem?_eq_some_iff.1 hm).1;omega) hm
      ·exact hI j q (by omega) hq⟩,by omega,B4 h0 rfl ⟨rfl,rfl,trivial⟩ trivial rfl rfl rfl⟩
 have hii:i = a.length:=by omega
 subst hii
 have hrng:∀ r ∈ a,∀ x ∈ r, -2147483648 ≤ x ∧ x ≤ 2147483648:=fun r h=>by
  obtain ⟨j,hj⟩:=List.mem_iff_getElem?.1 h
  exact hI j r (List.getElem?_eq_some_iff.1 hj).1 hj
 have c1:=KA a (fun r h=>by rw [hall r h];omega) (by omega) hrng
 rw [NW h1 (by omega) hall hrng] at hG
 clear hI hrng hall
 by_cases hs:I4 a ≤ J5
 ·rw [if_pos hs] at hG
  rw [decide_eq_true hs] at c1
  subst hG
  repeat' ((first | refine A4 c1 ?_ |refine A5 ?_|refine S1 ?_|refine Z1 ?_|refine Z2 ?_|(refine And.intro ?_ ?_<;>intro h<;>try first|(exfalso;omega)|exact absurd rfl h)|refine Z3 ?_|refine Z4 ?_|intro el hel hbB|intro el hel|intro ex|refine Z5 ?_|(refine B0 ?_ ?_;exact ⟨by kernel_rfl,by decide⟩)|refine A9 ?_ ?_|exact A8|refine A7 ?_ ?_|exact A6|(refine A3 ?_ ?_ ?_;kernel_rfl;kernel_rfl)) <;> (try (conv=>whnf)))
  all_goals first
   | (exfalso;omega)
   | exact B9 rfl rfl
 ·rw [if_neg hs] at hG
  rw [decide_eq_false hs] at c1
  subst hG
  repeat' ((first | refine A4 c1 ?_ |refine A5 ?_|refine S1 ?_|refine Z1 ?_|refine Z2 ?_|(refine And.intro ?_ ?_<;>intro h<;>try first|(exfalso;omega)|exact absurd rfl h)|refine Z3 ?_|refine Z4 ?_|intro el hel hbB|intro el hel|intro ex|refine Z5 ?_|(refine B0 ?_ ?_;exact ⟨by kernel_rfl,by decide⟩)|refine A9 ?_ ?_|exact A8|refine A7 ?_ ?_|exact A6|(refine A3 ?_ ?_ ?_;kernel_rfl;kernel_rfl)) <;> (try (conv=>whnf)))
  all_goals first
   | (exfalso;omega)
   | exact B9 rfl rfl
end Go.Proofs.YtbhegmcbpolemaaDoor

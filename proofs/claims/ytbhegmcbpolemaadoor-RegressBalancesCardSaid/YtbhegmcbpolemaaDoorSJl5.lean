/- Cramer's rule, and the ratio of determinants, by the program. -/
import Derived.Test.YtbhegmcbpolemaaDoorSJl4
import Derived.Test.YtbhegmcbpolemaaDoorSJp7
set_option linter.unusedVariables false
set_option linter.unnecessarySimpa false
set_option linter.unusedSimpArgs false
namespace Go.Proofs.YtbhegmcbpolemaaDoor
open Go Go.Av
attribute [local irreducible] E3 B5 F2 F0 DQ F5 G8 St.le B6 D3
set_option maxRecDepth 100000
theorem FK {a:List (List Int)} (h:H1 a = 0):a.length ≠ 0 ∧ a.length ≤ 5 ∧ (∀ r ∈ a,r.length = a.length) ∧ (∀ r ∈ a,∀ x ∈ r, -2147483648 ≤ x ∧ x ≤ 2147483648) ∧ T3 a ≤ R5:=by
 unfold H1 at h
 split at h
 ·cases h
 split at h
 ·cases h
 split at h
 ·cases h
 split at h
 ·cases h
 split at h
 ·cases h
 rename_i h1 h2 h3 h4 h5
 refine ⟨h1,by omega,fun r hr=>?_,fun r hr x hx=>?_,by unfold R5;omega⟩
 ·by_cases e:r.length = a.length
  ·exact e
  ·exact absurd (List.any_eq_true.2 ⟨r,hr,by simp [e]⟩) h3
 ·by_cases e:-2147483648 ≤ x ∧ x ≤ 2147483648
  ·exact e
  ·exact absurd (List.any_eq_true.2 ⟨r,hr,List.any_eq_true.2 ⟨x,hx,by simp;omega⟩⟩) h4
theorem Ek {a:List (List Int)} (h:H1 a = 0):-170141183460469231731687303715884105728 < F8 a ∧ F8 a < 170141183460469231731687303715884105728:=by
 obtain ⟨_,_,h3,_,h5⟩:=FK h
 have:=PT a h3
 unfold R5 at h5
 omega
theorem AM {a:List (List Int)} (h:H1 a = 0):B6 Tryd.prog 48 [C3 a] (H9 (F8 a)):=by
 obtain ⟨_,h2,h3,h4,_⟩:=FK h
 exact Nh a h3 (by omega) fun r hr x hx=>by have:=h4 r hr x hx;omega
def Ro (p:Int × (Int × Int)):AV:=.tup [a8 p.2, .i p.1]
set_option maxHeartbeats 16000000 in
theorem KI (a b:List (List Int)):B6 Tryd.prog 27 [C3 a,C3 b] (Ro (j7 a b)):=by
 have c1:=BZ a
 have c2:=BZ b
 unfold j7
 by_cases ha:H1 a = 0
 rotate_left
 ·rw [if_pos ha]
  generalize H1 a = e at *
  refine E1 Tryd.func27 33 fun hrd E h0=>?_
  clear hrd
  repeat' ((first | refine A4 c1 ?_ |refine A6 ?_|refine S1 ?_|refine Z1 ?_|refine Z2 ?_|(refine And.intro ?_ ?_<;>intro h<;>try first|(exfalso;omega)|exact absurd rfl h)|refine Z3 ?_|refine Z4 ?_|intro el hel hbB|intro el hel|intro ex|refine Z5 ?_|(refine B2 ?_ ?_;exact ⟨by kernel_rfl,by decide⟩)|refine B0 ?_ ?_|exact A9|refine A8 ?_ ?_|exact A7|(refine A3 ?_ ?_ ?_;kernel_rfl;kernel_rfl)) <;> (try (conv=>whnf)))
  all_goals first
   | (exfalso;omega)
   | exact F9 rfl rfl rfl (.refl _) rfl (.refl _) rfl
 rw [if_neg (by simp [ha])]
 rw [ha] at c1
 by_cases hb:H1 b = 0
 rotate_left
 ·rw [if_pos hb]
  generalize H1 b = e at *
  refine E1 Tryd.func27 33 fun hrd E h0=>?_
  clear hrd
  repeat' ((first | refine A4 c1 ?_ | refine A4 c2 ?_ |refine A6 ?_|refine S1 ?_|refine Z1 ?_|refine Z2 ?_|(refine And.intro ?_ ?_<;>intro h<;>try first|(exfalso;omega)|exact absurd rfl h)|refine Z3 ?_|refine Z4 ?_|intro el hel hbB|intro el hel|intro ex|refine Z5 ?_|(refine B2 ?_ ?_;exact ⟨by kernel_rfl,by decide⟩)|refine B0 ?_ ?_|exact A9|refine A8 ?_ ?_|exact A7|(refine A3 ?_ ?_ ?_;kernel_rfl;kernel_rfl)) <;> (try (conv=>whnf)))
  all_goals first
   | (exfalso;omega)
   | exact F9 rfl rfl rfl (.refl _) rfl (.refl _) rfl
 rw [if_neg (by simp [hb])]
 rw [hb] at c2
 have d1:=AM ha
 have d2:=AM hb
 have b1:=Ek ha
 have b2:=Ek hb
 have s2:=R0 (F8 b) (by omega)
 by_cases h0d:F8 b = 0
 ·rw [if_pos h0d]
  rw [h0d] at s2 d2
  rw [show (0:Int).sign = 0 from rfl] at s2
  refine E1 Tryd.func27 33 fun hrd E h0=>?_
  clear hrd
  repeat' ((first | refine A4 c1 ?_ | refine A4 c2 ?_ | refine A4 d2 ?_ | refine A4 s2 ?_ |refine A6 ?_|refine S1 ?_|refine Z1 ?_|refine Z2 ?_|(refine And.intro ?_ ?_<;>intro h<;>try first|(exfalso;omega)|exact absurd rfl h)|refine Z3 ?_|refine Z4 ?_|intro el hel hbB|intro el hel|intro ex|refine Z5 ?_|(refine B2 ?_ ?_;exact ⟨by kernel_rfl,by decide⟩)|refine B0 ?_ ?_|exact A9|refine A8 ?_ ?_|exact A7|(refine A3 ?_ ?_ ?_;kernel_rfl;kernel_rfl)) <;> (try (conv=>whnf)))
  all_goals first
   | (exfalso;omega)
   | exact F9 rfl rfl rfl (.refl _) rfl (.refl _) rfl
 rw [if_neg h0d]
 have hs:(F8 b).sign ≠ 0:=fun h=>h0d (Int.sign_eq_zero_iff_zero.1 h)
 have r1:=U5 (F8 a) (F8 b) b1 b2 h0d
 generalize (F8 b).sign = sg at *
 cases hr:J8 (F8 a) (F8 b) with
 | none =>
   rw [hr] at r1
   refine E1 Tryd.func27 33 fun hrd E h0=>?_
   clear hrd
   repeat' ((first | refine A4 c1 ?_ | refine A4 c2 ?_ | refine A4 d1 ?_ | refine A4 d2 ?_ | refine A4 s2 ?_ | refine A4 r1 ?_ | (refine F6 (id:=10) ⟨[(4, .ref 0 0),(5, .i 14)],2,[(0,some (.box [.i 0, .i 0])),(1,some (.box (G0 (F8 b))))]⟩ ?_ ?_) |refine A6 ?_|refine S1 ?_|refine Z1 ?_|refine Z2 ?_|(refine And.intro ?_ ?_<;>intro h<;>try first|(exfalso;omega)|exact absurd rfl h)|refine Z3 ?_|refine Z4 ?_|intro el hel hbB|intro el hel|intro ex|refine Z5 ?_|(refine B2 ?_ ?_;exact ⟨by kernel_rfl,by decide⟩)|refine B0 ?_ ?_|exact A9|refine A8 ?_ ?_|exact A7|(refine A3 ?_ ?_ ?_;kernel_rfl;kernel_rfl)) <;> (try (conv=>whnf)))
   all_goals first
    | (exfalso;omega)
    | exact B3 h0 rfl ⟨rfl,rfl,trivial⟩ ⟨rfl,rfl,trivial⟩ rfl rfl rfl
    | exact F9 rfl rfl rfl (.refl _) rfl (.refl _) rfl
 | some p =>
   rw [hr] at r1
   obtain ⟨n,d⟩:=p
   refine E1 Tryd.func27 33 fun hrd E h0=>?_
   clear hrd
   repeat' ((first | refine A4 c1 ?_ | refine A4 c2 ?_ | refine A4 d1 ?_ | refine A4 d2 ?_ | refine A4 s2 ?_ | refine A4 r1 ?_ | (refine F6 (id:=10) ⟨[(4, .ref 0 0),(5, .i 0)],2,[(0,some (.box [.i n, .i d])),(1,some (.box (G0 (F8 b))))]⟩ ?_ ?_) |refine A6 ?_|refine S1 ?_|refine Z1 ?_|refine Z2 ?_|(refine And.intro ?_ ?_<;>intro h<;>try first|(exfalso;omega)|exact absurd rfl h)|refine Z3 ?_|refine Z4 ?_|intro el hel hbB|intro el hel|intro ex|refine Z5 ?_|(refine B2 ?_ ?_;exact ⟨by kernel_rfl,by decide⟩)|refine B0 ?_ ?_|exact A9|refine A8 ?_ ?_|exact A7|(refine A3 ?_ ?_ ?_;kernel_rfl;kernel_rfl)) <;> (try (conv=>whnf)))
   all_goals first
    | (exfalso;omega)
    | exact B3 h0 rfl ⟨rfl,rfl,trivial⟩ ⟨rfl,rfl,trivial⟩ rfl rfl rfl
    | exact F9 rfl rfl rfl (.refl _) rfl (.refl _) rfl
abbrev M1 (q:Int × Int):List AV:=[.i q.1, .i q.2]
def Rp (p:Int × List (Int × Int)):AV:=.tup [.sl 2 (p.2.map M1), .i p.1]
set_option maxHeartbeats 16000000 in
theorem KJ (a:List (List Int)) (b:List Int):B6 Tryd.prog 26 [C3 a,C2 b] (Rp (U6 a b)):=by
 have c1:=BZ a
 unfold U6
 by_cases ha:H1 a = 0
 rotate_left
 ·rw [if_pos ha]
  generalize H1 a = e at *
  refine E1 Tryd.func26 67 fun hrd E h0=>?_
  clear hrd
  repeat' ((first | refine A4 c1 ?_ |refine A6 ?_|refine S1 ?_|refine Z1 ?_|refine Z2 ?_|(refine And.intro ?_ ?_<;>intro h<;>try first|(exfalso;omega)|exact absurd rfl h)|refine Z3 ?_|refine Z4 ?_|intro el hel hbB|intro el hel|intro ex|refine Z5 ?_|(refine B2 ?_ ?_;exact ⟨by kernel_rfl,by decide⟩)|refine B0 ?_ ?_|exact A9|refine A8 ?_ ?_|exact A7|(refine A3 ?_ ?_ ?_;kernel_rfl;kernel_rfl)) <;> (try (conv=>whnf)))
  all_goals first
   | (exfalso;omega)
   | exact w4 (rs:=[.tmp 4, .tmp 5]) (vs:=[.sl 2 [], .i _]) rfl ⟨O8 rfl (.nil 2),O8 rfl (.refl _),trivial⟩ rfl
 rw [if_neg (by simp [ha])]
 rw [ha] at c1
 obtain ⟨a1,a2,a3,a4,a5⟩:=FK ha
 by_cases hbl:b.length = a.length
 rotate_left
 ·rw [if_pos hbl]
  refine E1 Tryd.func26 67 fun hrd E h0=>?_
  clear hrd
  repeat' ((first | refine A4 c1 ?_ |refine A6 ?_|refine S1 ?_|refine Z1 ?_|refine Z2 ?_|(refine And.intro ?_ ?_<;>intro h<;>try first|(exfalso;omega)|exact absurd rfl h)|refine Z3 ?_|refine Z4 ?_|intro el hel hbB|intro el hel|intro ex|refine Z5 ?_|(refine B2 ?_ ?_;exact ⟨by kernel_rfl,by decide⟩)|refine B0 ?_ ?_|exact A9|refine A8 ?_ ?_|exact A7|(refine A3 ?_ ?_ ?_;kernel_rfl;kernel_rfl)) <;> (try (conv=>whnf)))
  all_goals first
   | (exfalso;omega)
   | exact w4 (rs:=[.tmp 4, .tmp 5]) (vs:=[.sl 2 [], .i _]) rfl ⟨O8 rfl (.nil 2),O8 rfl (.refl _),trivial⟩ rfl
 rw [if_neg (by simp [hbl])]
 have hpl:∀ k,(J9 a b k).length = a.length:=fun k=>BV a b k
 have hpc:∀ k,k < a.length → B6 Tryd.prog 47 [C3 a, .i k,C2 b] (C3 (J9 a b k)):=fun k hk=>GN a b k a3 hbl hk (by omega)
 have hcc:∀ k,B6 Tryd.prog 46 [C3 (J9 a b k)] (.i (H1 (J9 a b k))):=fun k=>BZ _
 have hdd:∀ k,H1 (J9 a b k) = 0 → B6 Tryd.prog 48 [C3 (J9 a b k)] (H9 (F8 (J9 a b k))):=fun k h=>AM h
 have hbd:∀ k,H1 (J9 a b k) = 0 → -170141183460469231731687303715884105728 < F8 (J9 a b k) ∧ F8 (J9 a b k) < 170141183460469231731687303715884105728:=fun k h=>Ek h
 have d1:=AM ha
 have b1:=Ek ha
 have s1:=R0 (F8 a) (by omega)
 generalize hp:(fun k=>J9 a b k) = p at *
 have hp2:∀ k,J9 a b k = p k:=fun k=>by rw [← hp]
 simp only [hp2] at *
 clear hp hp2
 generalize F8 a = D at *
 refine E1 Tryd.func26 67 fun hrd E h0=>?_
 clear hrd
 repeat' ((first | refine A4 c1 ?_ |refine A6 ?_|refine S1 ?_|refine Z1 ?_|refine Z2 ?_|(refine And.intro ?_ ?_<;>intro h<;>try first|(exfalso;omega)|exact absurd rfl h)|refine Z3 ?_|refine Z4 ?_|intro el hel hbB|intro el hel|intro ex|refine Z5 ?_|(refine B2 ?_ ?_;exact ⟨by kernel_rfl,by decide⟩)|refine B0 ?_ ?_|exact A9|refine A8 ?_ ?_|exact A7|(refine A3 ?_ ?_ ?_;kernel_rfl;kernel_rfl)) <;> (try (conv=>whnf)))
 all_goals first
  | (exfalso;omega)
  | skip
 refine F4 (ι:=Nat) (fun k=>⟨[(0,C3 a),(1,C2 b),(25, .i a.length),(26, .i k)],0,[]⟩) (fun k=>k ≤ a.length ∧ T4 (fun k=>H1 (p k)) k = 0) (fun k=>a.length - k) 0 ⟨Nat.zero_le _,rfl⟩
  (B3 h0 rfl ⟨rfl,rfl,rfl,rfl,trivial⟩ trivial rfl rfl rfl) (fun k hI=>?_)
 obtain ⟨hk,hI⟩:=hI
 by_cases hkl:k < a.length
 ·have q1:=hpc k hkl
  have q2:=hcc k
  by_cases hz:H1 (p k) = 0
  ·rw [hz] at q2
   have hI2:T4 (fun k=>H1 (p k)) (k + 1) = 0:=by rw [T4,if_neg (by simp [hI])];exact hz
   repeat' ((first | refine A4 q1 ?_ | refine A4 q2 ?_ |refine A6 ?_|refine S1 ?_|refine Z1 ?_|refine Z2 ?_|(refine And.intro ?_ ?_<;>intro h<;>try first|(exfalso;omega)|exact absurd rfl h)|refine Z3 ?_|refine Z4 ?_|intro el hel hbB|intro el hel|intro ex|refine Z5 ?_|(refine B2 ?_ ?_;exact ⟨by kernel_rfl,by decide⟩)|refine B0 ?_ ?_|exact A9|refine A8 ?_ ?_|exact A7|(refine A3 ?_ ?_ ?_;kernel_rfl;kernel_rfl)) <;> (try (conv=>whnf)))
   all_goals first
    | (exfalso;omega)
    | exact ⟨k + 1,⟨by omega,hI2⟩,by omega,B3 h0 rfl ⟨rfl,rfl,rfl,rfl,trivial⟩ trivial rfl rfl rfl⟩
  ·rw [if_pos (by rw [Iy hI hz hkl];exact hz),Iy (f:=fun k=>H1 (p k)) hI hz hkl]
   generalize H1 (p k) = e at *
   repeat' ((first | refine A4 q1 ?_ | refine A4 q2 ?_ |refine A6 ?_|refine S1 ?_|refine Z1 ?_|refine Z2 ?_|(refine And.intro ?_ ?_<;>intro h<;>try first|(exfalso;omega)|exact absurd rfl h)|refine Z3 ?_|refine Z4 ?_|intro el hel hbB|intro el hel|intro ex|refine Z5 ?_|(refine B2 ?_ ?_;exact ⟨by kernel_rfl,by decide⟩)|refine B0 ?_ ?_|exact A9|refine A8 ?_ ?_|exact A7|(refine A3 ?_ ?_ ?_;kernel_rfl;kernel_rfl)) <;> (try (conv=>whnf)))
   all_goals first
    | (exfalso;omega)
    | exact w4 (rs:=[.tmp 4, .tmp 5]) (vs:=[.sl 2 [], .i _]) rfl ⟨O8 rfl (.nil 2),O8 rfl (.refl _),trivial⟩ rfl
 have hkk:k = a.length:=by omega
 subst hkk
 have hz:=Ld hI
 rw [if_neg (by simp [hI])]
 clear hI
 by_cases h0d:D = 0
 ·subst h0d
  rw [if_pos rfl]
  rw [show (0:Int).sign = 0 from rfl] at s1
  repeat' ((first | refine A4 d1 ?_ | refine A4 s1 ?_ |refine A6 ?_|refine S1 ?_|refine Z1 ?_|refine Z2 ?_|(refine And.intro ?_ ?_<;>intro h<;>try first|(exfalso;omega)|exact absurd rfl h)|refine Z3 ?_|refine Z4 ?_|intro el hel hbB|intro el hel|intro ex|refine Z5 ?_|(refine B2 ?_ ?_;exact ⟨by kernel_rfl,by decide⟩)|refine B0 ?_ ?_|exact A9|refine A8 ?_ ?_|exact A7|(refine A3 ?_ ?_ ?_;kernel_rfl;kernel_rfl)) <;> (try (conv=>whnf)))
  all_goals first
   | (exfalso;omega)
   | exact w4 (rs:=[.tmp 4, .tmp 5]) (vs:=[.sl 2 [], .i _]) rfl ⟨O8 rfl (.nil 2),O8 rfl (.refl _),trivial⟩ rfl
 rw [if_neg h0d]
 have hs:D.sign ≠ 0:=fun h=>h0d (Int.sign_eq_zero_iff_zero.1 h)
 generalize D.sign = sg at *
 repeat' ((first | refine A4 d1 ?_ | refine A4 s1 ?_ |refine A6 ?_|refine S1 ?_|refine Z1 ?_|refine Z2 ?_|(refine And.intro ?_ ?_<;>intro h<;>try first|(exfalso;omega)|exact absurd rfl h)|refine Z3 ?_|refine Z4 ?_|intro el hel hbB|intro el hel|intro ex|refine Z5 ?_|(refine B2 ?_ ?_;exact ⟨by kernel_rfl,by decide⟩)|refine B0 ?_ ?_|exact A9|refine A8 ?_ ?_|exact A7|(refine A3 ?_ ?_ ?_;kernel_rfl;kernel_rfl)) <;> (try (conv=>whnf)))
 all_goals first
  | (exfalso;omega)
  | skip
 refine F4 (ι:=Nat × List (Int × Int)) (fun s=>⟨[(0,C3 a),(1,C2 b),(9, .ref 0 0),(10, .row 1 0 s.2.length),(44, .i a.length),(45, .i s.1)],2,[(0,some (.box (G0 D))),(1,some (.row 31 2 0 (s.2.map M1)))]⟩) (fun s=>s.1 ≤ a.length ∧ n8 (fun k=>J8 (F8 (p k)) D) s.1 = some s.2) (fun s=>a.length - s.1) (0,[]) ⟨Nat.zero_le _,rfl⟩
  (F1 (j5 (d:=10) (e:=31) (sz:=2) rfl) (B3 h0 rfl ⟨rfl,rfl,rfl,rfl,rfl,rfl,trivial⟩ ⟨rfl,⟨0,rfl⟩,trivial⟩ rfl rfl rfl)) (fun s hI=>?_)
 obtain ⟨k,out⟩:=s
 obtain ⟨hk,hI⟩:=hI
 dsimp only at hk hI ⊢
 have hol:=w8 hI
 by_cases hkl:k < a.length
 ·have q1:=hpc k hkl
  have q2:=hdd k (hz k hkl)
  have q3:=hbd k (hz k hkl)
  have q4:=U5 (F8 (p k)) D q3 b1 h0d
  cases hr:J8 (F8 (p k)) D with
  | none =>
    rw [hr] at q4
    rw [Lc (f:=fun k=>J8 (F8 (p k)) D) hr hkl]
    generalize F8 (p k) = dk at *
    repeat' ((first | refine A4 q1 ?_ | refine A4 q2 ?_ | refine A4 q4 ?_ | (refine F6 (id:=20) ⟨[(12, .ref 2 0),(13, .i 14)],3,[(0,some (.box (G0 D))),(2,some (.box [.i 0, .i 0]))]⟩ ?_ ?_) |refine A6 ?_|refine S1 ?_|refine Z1 ?_|refine Z2 ?_|(refine And.intro ?_ ?_<;>intro h<;>try first|(exfalso;omega)|exact absurd rfl h)|refine Z3 ?_|refine Z4 ?_|intro el hel hbB|intro el hel|intro ex|refine Z5 ?_|(refine B2 ?_ ?_;exact ⟨by kernel_rfl,by decide⟩)|refine B0 ?_ ?_|exact A9|refine A8 ?_ ?_|exact A7|(refine A3 ?_ ?_ ?_;kernel_rfl;kernel_rfl)) <;> (try (conv=>whnf)))
    all_goals first
     | (exfalso;omega)
     | exact B3 h0 rfl ⟨rfl,rfl,trivial⟩ ⟨rfl,rfl,trivial⟩ rfl rfl rfl
     | exact w4 (rs:=[.tmp 4, .tmp 5]) (vs:=[.sl 2 [], .i _]) rfl ⟨O8 rfl (.nil 2),O8 rfl (.refl _),trivial⟩ rfl
  | some x =>
    rw [hr] at q4
    have hI2:n8 (fun k=>J8 (F8 (p k)) D) (k + 1) = some (out ++ [x]):=by rw [n8,hI,hr]
    generalize F8 (p k) = dk at *
    obtain ⟨n,d⟩:=x
    repeat' ((first | refine A4 q1 ?_ | refine A4 q2 ?_ | refine A4 q4 ?_ | (refine F6 (id:=20) ⟨[(0,C3 a),(1,C2 b),(9, .ref 0 0),(10, .row 1 0 out.length),(12, .ref 2 0),(13, .i 0),(44, .i a.length),(45, .i k)],3,[(0,some (.box (G0 D))),(1,some (.row 31 2 0 (out.map M1))),(2,some (.box [.i n, .i d]))]⟩ ?_ ?_) |refine A6 ?_|refine S1 ?_|refine Z1 ?_|refine Z2 ?_|(refine And.intro ?_ ?_<;>intro h<;>try first|(exfalso;omega)|exact absurd rfl h)|refine Z3 ?_|refine Z4 ?_|intro el hel hbB|intro el hel|intro ex|refine Z5 ?_|(refine B2 ?_ ?_;exact ⟨by kernel_rfl,by decide⟩)|refine B0 ?_ ?_|exact A9|refine A8 ?_ ?_|exact A7|(refine A3 ?_ ?_ ?_;kernel_rfl;kernel_rfl)) <;> (try (conv=>whnf)))
    all_goals first
     | (exfalso;omega)
     | exact B3 h0 rfl ⟨rfl,rfl,rfl,rfl,rfl,rfl,rfl,rfl,trivial⟩ ⟨rfl,⟨_,rfl⟩,rfl,trivial⟩ rfl rfl rfl
     | exact ⟨(k + 1,out ++ [(n,d)]),⟨by dsimp only;omega,hI2⟩,by dsimp only;omega,B3 h0 rfl ⟨rfl,rfl,rfl,congrArg (fun z:Nat=>some (AV.row 1 0 z)) (by rw [List.length_append];rfl),rfl,rfl,trivial⟩ ⟨rfl,⟨_,congrArg (E0.row 31 2 _) (by rw [List.map_append];rfl)⟩,trivial⟩ rfl rfl rfl⟩
 ·have hkk:k = a.length:=by omega
  rw [hkk] at hI
  rw [hI]
  repeat' ((first|refine A6 ?_|refine S1 ?_|refine Z1 ?_|refine Z2 ?_|(refine And.intro ?_ ?_<;>intro h<;>try first|(exfalso;omega)|exact absurd rfl h)|refine Z3 ?_|refine Z4 ?_|intro el hel hbB|intro el hel|intro ex|refine Z5 ?_|(refine B2 ?_ ?_;exact ⟨by kernel_rfl,by decide⟩)|refine B0 ?_ ?_|exact A9|refine A8 ?_ ?_|exact A7|(refine A3 ?_ ?_ ?_;kernel_rfl;kernel_rfl)) <;> (try (conv=>whnf)))
  all_goals first
   | (exfalso;omega)
   | exact BI rfl rfl rfl
end Go.Proofs.YtbhegmcbpolemaaDoor

/- Cramer's rule, and the ratio of determinants, by the program. -/
import Derived.Test.YtbhegmcbpolemaaDoorRJl4
import Derived.Test.YtbhegmcbpolemaaDoorRJp7
set_option linter.unusedVariables false
set_option linter.unnecessarySimpa false
set_option linter.unusedSimpArgs false
namespace Go.Proofs.YtbhegmcbpolemaaDoor
open Go Go.Av
attribute [local irreducible] E2 B3 F6 E9 DQ G2 H3 St.le B4 D7
set_option maxRecDepth 100000
theorem Ew {a:List (List Int)} (h:H4 a = 0):a.length ≠ 0 ∧ a.length ≤ 5 ∧ (∀ r ∈ a,r.length = a.length) ∧ (∀ r ∈ a,∀ x ∈ r, -2147483648 ≤ x ∧ x ≤ 2147483648) ∧ O1 a ≤ R8:=by
 unfold H4 at h
 split at h
 ·cases h
 split at h
 ·cases h
 split at h
 ·cases h
 split at h
 ·cases h
 split at h
 ·cases h
 rename_i h1 h2 h3 h4 h5
 refine ⟨h1,by omega,fun r hr=>?_,fun r hr x hx=>?_,by unfold R8;omega⟩
 ·by_cases e:r.length = a.length
  ·exact e
  ·exact absurd (List.any_eq_true.2 ⟨r,hr,by simp [e]⟩) h3
 ·by_cases e:-2147483648 ≤ x ∧ x ≤ 2147483648
  ·exact e
  ·exact absurd (List.any_eq_true.2 ⟨r,hr,List.any_eq_true.2 ⟨x,hx,by simp;omega⟩⟩) h4
theorem EZ {a:List (List Int)} (h:H4 a = 0):-170141183460469231731687303715884105728 < F5 a ∧ F5 a < 170141183460469231731687303715884105728:=by
 obtain ⟨_,_,h3,_,h5⟩:=Ew h
 have:=PJ a h3
 unfold R8 at h5
 omega
theorem AC {a:List (List Int)} (h:H4 a = 0):B4 Tryd.prog 48 [D1 a] (I5 (F5 a)):=by
 obtain ⟨_,h2,h3,h4,_⟩:=Ew h
 exact Nh a h3 (by omega) fun r hr x hx=>by have:=h4 r hr x hx;omega
def Rb (p:Int × (Int × Int)):AV:=.tup [Ag p.2, .i p.1]
set_option maxHeartbeats 16000000 in
theorem KL (a b:List (List Int)):B4 Tryd.prog 27 [D1 a,D1 b] (Rb (AU a b)):=by
 have c1:=BU a
 have c2:=BU b
 unfold AU
 by_cases ha:H4 a = 0
 rotate_left
 ·rw [if_pos ha]
  generalize H4 a = e at *
  refine E4 Tryd.func27 33 fun hrd E h0=>?_
  clear hrd
  repeat' ((first | refine A5 c1 ?_ |refine A6 ?_|refine S1 ?_|refine Z1 ?_|refine Z2 ?_|(refine And.intro ?_ ?_<;>intro h<;>try first|(exfalso;omega)|exact absurd rfl h)|refine Z3 ?_|refine Z4 ?_|intro el hel hbB|intro el hel|intro ex|refine Z5 ?_|(refine B2 ?_ ?_;exact ⟨by kernel_rfl,by decide⟩)|refine B0 ?_ ?_|exact A9|refine A8 ?_ ?_|exact A7|(refine A3 ?_ ?_ ?_;kernel_rfl;kernel_rfl)) <;> (try (conv=>whnf)))
  all_goals first
   | (exfalso;omega)
   | exact I0 rfl rfl rfl (.refl _) rfl (.refl _) rfl
 rw [if_neg (by simp [ha])]
 rw [ha] at c1
 by_cases hb:H4 b = 0
 rotate_left
 ·rw [if_pos hb]
  generalize H4 b = e at *
  refine E4 Tryd.func27 33 fun hrd E h0=>?_
  clear hrd
  repeat' ((first | refine A5 c1 ?_ | refine A5 c2 ?_ |refine A6 ?_|refine S1 ?_|refine Z1 ?_|refine Z2 ?_|(refine And.intro ?_ ?_<;>intro h<;>try first|(exfalso;omega)|exact absurd rfl h)|refine Z3 ?_|refine Z4 ?_|intro el hel hbB|intro el hel|intro ex|refine Z5 ?_|(refine B2 ?_ ?_;exact ⟨by kernel_rfl,by decide⟩)|refine B0 ?_ ?_|exact A9|refine A8 ?_ ?_|exact A7|(refine A3 ?_ ?_ ?_;kernel_rfl;kernel_rfl)) <;> (try (conv=>whnf)))
  all_goals first
   | (exfalso;omega)
   | exact I0 rfl rfl rfl (.refl _) rfl (.refl _) rfl
 rw [if_neg (by simp [hb])]
 rw [hb] at c2
 have d1:=AC ha
 have d2:=AC hb
 have b1:=EZ ha
 have b2:=EZ hb
 have s2:=U3 (F5 b) (by omega)
 by_cases h0d:F5 b = 0
 ·rw [if_pos h0d]
  rw [h0d] at s2 d2
  rw [show (0:Int).sign = 0 from rfl] at s2
  refine E4 Tryd.func27 33 fun hrd E h0=>?_
  clear hrd
  repeat' ((first | refine A5 c1 ?_ | refine A5 c2 ?_ | refine A5 d2 ?_ | refine A5 s2 ?_ |refine A6 ?_|refine S1 ?_|refine Z1 ?_|refine Z2 ?_|(refine And.intro ?_ ?_<;>intro h<;>try first|(exfalso;omega)|exact absurd rfl h)|refine Z3 ?_|refine Z4 ?_|intro el hel hbB|intro el hel|intro ex|refine Z5 ?_|(refine B2 ?_ ?_;exact ⟨by kernel_rfl,by decide⟩)|refine B0 ?_ ?_|exact A9|refine A8 ?_ ?_|exact A7|(refine A3 ?_ ?_ ?_;kernel_rfl;kernel_rfl)) <;> (try (conv=>whnf)))
  all_goals first
   | (exfalso;omega)
   | exact I0 rfl rfl rfl (.refl _) rfl (.refl _) rfl
 rw [if_neg h0d]
 have hs:(F5 b).sign ≠ 0:=fun h=>h0d (Int.sign_eq_zero_iff_zero.1 h)
 have r1:=U4 (F5 a) (F5 b) b1 b2 h0d
 generalize (F5 b).sign = sg at *
 cases hr:F7 (F5 a) (F5 b) with
 | none =>
   rw [hr] at r1
   refine E4 Tryd.func27 33 fun hrd E h0=>?_
   clear hrd
   repeat' ((first | refine A5 c1 ?_ | refine A5 c2 ?_ | refine A5 d1 ?_ | refine A5 d2 ?_ | refine A5 s2 ?_ | refine A5 r1 ?_ | (refine I1 (id:=10) ⟨[(4, .ref 0 0),(5, .i 14)],2,[(0,some (.box [.i 0, .i 0])),(1,some (.box (G0 (F5 b))))]⟩ ?_ ?_) |refine A6 ?_|refine S1 ?_|refine Z1 ?_|refine Z2 ?_|(refine And.intro ?_ ?_<;>intro h<;>try first|(exfalso;omega)|exact absurd rfl h)|refine Z3 ?_|refine Z4 ?_|intro el hel hbB|intro el hel|intro ex|refine Z5 ?_|(refine B2 ?_ ?_;exact ⟨by kernel_rfl,by decide⟩)|refine B0 ?_ ?_|exact A9|refine A8 ?_ ?_|exact A7|(refine A3 ?_ ?_ ?_;kernel_rfl;kernel_rfl)) <;> (try (conv=>whnf)))
   all_goals first
    | (exfalso;omega)
    | exact B5 h0 rfl ⟨rfl,rfl,trivial⟩ ⟨rfl,rfl,trivial⟩ rfl rfl rfl
    | exact I0 rfl rfl rfl (.refl _) rfl (.refl _) rfl
 | some p =>
   rw [hr] at r1
   obtain ⟨n,d⟩:=p
   refine E4 Tryd.func27 33 fun hrd E h0=>?_
   clear hrd
   repeat' ((first | refine A5 c1 ?_ | refine A5 c2 ?_ | refine A5 d1 ?_ | refine A5 d2 ?_ | refine A5 s2 ?_ | refine A5 r1 ?_ | (refine I1 (id:=10) ⟨[(4, .ref 0 0),(5, .i 0)],2,[(0,some (.box [.i n, .i d])),(1,some (.box (G0 (F5 b))))]⟩ ?_ ?_) |refine A6 ?_|refine S1 ?_|refine Z1 ?_|refine Z2 ?_|(refine And.intro ?_ ?_<;>intro h<;>try first|(exfalso;omega)|exact absurd rfl h)|refine Z3 ?_|refine Z4 ?_|intro el hel hbB|intro el hel|intro ex|refine Z5 ?_|(refine B2 ?_ ?_;exact ⟨by kernel_rfl,by decide⟩)|refine B0 ?_ ?_|exact A9|refine A8 ?_ ?_|exact A7|(refine A3 ?_ ?_ ?_;kernel_rfl;kernel_rfl)) <;> (try (conv=>whnf)))
   all_goals first
    | (exfalso;omega)
    | exact B5 h0 rfl ⟨rfl,rfl,trivial⟩ ⟨rfl,rfl,trivial⟩ rfl rfl rfl
    | exact I0 rfl rfl rfl (.refl _) rfl (.refl _) rfl
abbrev AD (q:Int × Int):List AV:=[.i q.1, .i q.2]
def Rc (p:Int × List (Int × Int)):AV:=.tup [.sl 2 (p.2.map AD), .i p.1]
set_option maxHeartbeats 16000000 in
theorem KM (a:List (List Int)) (b:List Int):B4 Tryd.prog 26 [D1 a,B8 b] (Rc (V9 a b)):=by
 have c1:=BU a
 unfold V9
 by_cases ha:H4 a = 0
 rotate_left
 ·rw [if_pos ha]
  generalize H4 a = e at *
  refine E4 Tryd.func26 67 fun hrd E h0=>?_
  clear hrd
  repeat' ((first | refine A5 c1 ?_ |refine A6 ?_|refine S1 ?_|refine Z1 ?_|refine Z2 ?_|(refine And.intro ?_ ?_<;>intro h<;>try first|(exfalso;omega)|exact absurd rfl h)|refine Z3 ?_|refine Z4 ?_|intro el hel hbB|intro el hel|intro ex|refine Z5 ?_|(refine B2 ?_ ?_;exact ⟨by kernel_rfl,by decide⟩)|refine B0 ?_ ?_|exact A9|refine A8 ?_ ?_|exact A7|(refine A3 ?_ ?_ ?_;kernel_rfl;kernel_rfl)) <;> (try (conv=>whnf)))
  all_goals first
   | (exfalso;omega)
   | exact u6 (rs:=[.tmp 4, .tmp 5]) (vs:=[.sl 2 [], .i _]) rfl ⟨P3 rfl (.nil 2),P3 rfl (.refl _),trivial⟩ rfl
 rw [if_neg (by simp [ha])]
 rw [ha] at c1
 obtain ⟨a1,a2,a3,a4,a5⟩:=Ew ha
 by_cases hbl:b.length = a.length
 rotate_left
 ·rw [if_pos hbl]
  refine E4 Tryd.func26 67 fun hrd E h0=>?_
  clear hrd
  repeat' ((first | refine A5 c1 ?_ |refine A6 ?_|refine S1 ?_|refine Z1 ?_|refine Z2 ?_|(refine And.intro ?_ ?_<;>intro h<;>try first|(exfalso;omega)|exact absurd rfl h)|refine Z3 ?_|refine Z4 ?_|intro el hel hbB|intro el hel|intro ex|refine Z5 ?_|(refine B2 ?_ ?_;exact ⟨by kernel_rfl,by decide⟩)|refine B0 ?_ ?_|exact A9|refine A8 ?_ ?_|exact A7|(refine A3 ?_ ?_ ?_;kernel_rfl;kernel_rfl)) <;> (try (conv=>whnf)))
  all_goals first
   | (exfalso;omega)
   | exact u6 (rs:=[.tmp 4, .tmp 5]) (vs:=[.sl 2 [], .i _]) rfl ⟨P3 rfl (.nil 2),P3 rfl (.refl _),trivial⟩ rfl
 rw [if_neg (by simp [hbl])]
 have hpl:∀ k,(K0 a b k).length = a.length:=fun k=>BQ a b k
 have hpc:∀ k,k < a.length → B4 Tryd.prog 47 [D1 a, .i k,B8 b] (D1 (K0 a b k)):=fun k hk=>Fv a b k a3 hbl hk (by omega)
 have hcc:∀ k,B4 Tryd.prog 46 [D1 (K0 a b k)] (.i (H4 (K0 a b k))):=fun k=>BU _
 have hdd:∀ k,H4 (K0 a b k) = 0 → B4 Tryd.prog 48 [D1 (K0 a b k)] (I5 (F5 (K0 a b k))):=fun k h=>AC h
 have hbd:∀ k,H4 (K0 a b k) = 0 → -170141183460469231731687303715884105728 < F5 (K0 a b k) ∧ F5 (K0 a b k) < 170141183460469231731687303715884105728:=fun k h=>EZ h
 have d1:=AC ha
 have b1:=EZ ha
 have s1:=U3 (F5 a) (by omega)
 generalize hp:(fun k=>K0 a b k) = p at *
 have hp2:∀ k,K0 a b k = p k:=fun k=>by rw [← hp]
 simp only [hp2] at *
 clear hp hp2
 generalize F5 a = D at *
 refine E4 Tryd.func26 67 fun hrd E h0=>?_
 clear hrd
 repeat' ((first | refine A5 c1 ?_ |refine A6 ?_|refine S1 ?_|refine Z1 ?_|refine Z2 ?_|(refine And.intro ?_ ?_<;>intro h<;>try first|(exfalso;omega)|exact absurd rfl h)|refine Z3 ?_|refine Z4 ?_|intro el hel hbB|intro el hel|intro ex|refine Z5 ?_|(refine B2 ?_ ?_;exact ⟨by kernel_rfl,by decide⟩)|refine B0 ?_ ?_|exact A9|refine A8 ?_ ?_|exact A7|(refine A3 ?_ ?_ ?_;kernel_rfl;kernel_rfl)) <;> (try (conv=>whnf)))
 all_goals first
  | (exfalso;omega)
  | skip
 refine H2 (ι:=Nat) (fun k=>⟨[(0,D1 a),(1,B8 b),(25, .i a.length),(26, .i k)],0,[]⟩) (fun k=>k ≤ a.length ∧ U5 (fun k=>H4 (p k)) k = 0) (fun k=>a.length - k) 0 ⟨Nat.zero_le _,rfl⟩
  (B5 h0 rfl ⟨rfl,rfl,rfl,rfl,trivial⟩ trivial rfl rfl rfl) (fun k hI=>?_)
 obtain ⟨hk,hI⟩:=hI
 by_cases hkl:k < a.length
 ·have q1:=hpc k hkl
  have q2:=hcc k
  by_cases hz:H4 (p k) = 0
  ·rw [hz] at q2
   have hI2:U5 (fun k=>H4 (p k)) (k + 1) = 0:=by rw [U5,if_neg (by simp [hI])];exact hz
   repeat' ((first | refine A5 q1 ?_ | refine A5 q2 ?_ |refine A6 ?_|refine S1 ?_|refine Z1 ?_|refine Z2 ?_|(refine And.intro ?_ ?_<;>intro h<;>try first|(exfalso;omega)|exact absurd rfl h)|refine Z3 ?_|refine Z4 ?_|intro el hel hbB|intro el hel|intro ex|refine Z5 ?_|(refine B2 ?_ ?_;exact ⟨by kernel_rfl,by decide⟩)|refine B0 ?_ ?_|exact A9|refine A8 ?_ ?_|exact A7|(refine A3 ?_ ?_ ?_;kernel_rfl;kernel_rfl)) <;> (try (conv=>whnf)))
   all_goals first
    | (exfalso;omega)
    | exact ⟨k + 1,⟨by omega,hI2⟩,by omega,B5 h0 rfl ⟨rfl,rfl,rfl,rfl,trivial⟩ trivial rfl rfl rfl⟩
  ·rw [if_pos (by rw [Iu hI hz hkl];exact hz),Iu (f:=fun k=>H4 (p k)) hI hz hkl]
   generalize H4 (p k) = e at *
   repeat' ((first | refine A5 q1 ?_ | refine A5 q2 ?_ |refine A6 ?_|refine S1 ?_|refine Z1 ?_|refine Z2 ?_|(refine And.intro ?_ ?_<;>intro h<;>try first|(exfalso;omega)|exact absurd rfl h)|refine Z3 ?_|refine Z4 ?_|intro el hel hbB|intro el hel|intro ex|refine Z5 ?_|(refine B2 ?_ ?_;exact ⟨by kernel_rfl,by decide⟩)|refine B0 ?_ ?_|exact A9|refine A8 ?_ ?_|exact A7|(refine A3 ?_ ?_ ?_;kernel_rfl;kernel_rfl)) <;> (try (conv=>whnf)))
   all_goals first
    | (exfalso;omega)
    | exact u6 (rs:=[.tmp 4, .tmp 5]) (vs:=[.sl 2 [], .i _]) rfl ⟨P3 rfl (.nil 2),P3 rfl (.refl _),trivial⟩ rfl
 have hkk:k = a.length:=by omega
 subst hkk
 have hz:=Ld hI
 rw [if_neg (by simp [hI])]
 clear hI
 by_cases h0d:D = 0
 ·subst h0d
  rw [if_pos rfl]
  rw [show (0:Int).sign = 0 from rfl] at s1
  repeat' ((first | refine A5 d1 ?_ | refine A5 s1 ?_ |refine A6 ?_|refine S1 ?_|refine Z1 ?_|refine Z2 ?_|(refine And.intro ?_ ?_<;>intro h<;>try first|(exfalso;omega)|exact absurd rfl h)|refine Z3 ?_|refine Z4 ?_|intro el hel hbB|intro el hel|intro ex|refine Z5 ?_|(refine B2 ?_ ?_;exact ⟨by kernel_rfl,by decide⟩)|refine B0 ?_ ?_|exact A9|refine A8 ?_ ?_|exact A7|(refine A3 ?_ ?_ ?_;kernel_rfl;kernel_rfl)) <;> (try (conv=>whnf)))
  all_goals first
   | (exfalso;omega)
   | exact u6 (rs:=[.tmp 4, .tmp 5]) (vs:=[.sl 2 [], .i _]) rfl ⟨P3 rfl (.nil 2),P3 rfl (.refl _),trivial⟩ rfl
 rw [if_neg h0d]
 have hs:D.sign ≠ 0:=fun h=>h0d (Int.sign_eq_zero_iff_zero.1 h)
 generalize D.sign = sg at *
 repeat' ((first | refine A5 d1 ?_ | refine A5 s1 ?_ |refine A6 ?_|refine S1 ?_|refine Z1 ?_|refine Z2 ?_|(refine And.intro ?_ ?_<;>intro h<;>try first|(exfalso;omega)|exact absurd rfl h)|refine Z3 ?_|refine Z4 ?_|intro el hel hbB|intro el hel|intro ex|refine Z5 ?_|(refine B2 ?_ ?_;exact ⟨by kernel_rfl,by decide⟩)|refine B0 ?_ ?_|exact A9|refine A8 ?_ ?_|exact A7|(refine A3 ?_ ?_ ?_;kernel_rfl;kernel_rfl)) <;> (try (conv=>whnf)))
 all_goals first
  | (exfalso;omega)
  | skip
 refine H2 (ι:=Nat × List (Int × Int)) (fun s=>⟨[(0,D1 a),(1,B8 b),(9, .ref 0 0),(10, .row 1 0 s.2.length),(44, .i a.length),(45, .i s.1)],2,[(0,some (.box (G0 D))),(1,some (.row 31 2 0 (s.2.map AD)))]⟩) (fun s=>s.1 ≤ a.length ∧ b8 (fun k=>F7 (F5 (p k)) D) s.1 = some s.2) (fun s=>a.length - s.1) (0,[]) ⟨Nat.zero_le _,rfl⟩
  (D8 (U0 (d:=10) (e:=31) (sz:=2) rfl) (B5 h0 rfl ⟨rfl,rfl,rfl,rfl,rfl,rfl,trivial⟩ ⟨rfl,⟨0,rfl⟩,trivial⟩ rfl rfl rfl)) (fun s hI=>?_)
 obtain ⟨k,out⟩:=s
 obtain ⟨hk,hI⟩:=hI
 dsimp only at hk hI ⊢
 have hol:=v7 hI
 by_cases hkl:k < a.length
 ·have q1:=hpc k hkl
  have q2:=hdd k (hz k hkl)
  have q3:=hbd k (hz k hkl)
  have q4:=U4 (F5 (p k)) D q3 b1 h0d
  cases hr:F7 (F5 (p k)) D with
  | none =>
    rw [hr] at q4
    rw [Lc (f:=fun k=>F7 (F5 (p k)) D) hr hkl]
    generalize F5 (p k) = dk at *
    repeat' ((first | refine A5 q1 ?_ | refine A5 q2 ?_ | refine A5 q4 ?_ | (refine I1 (id:=20) ⟨[(12, .ref 2 0),(13, .i 14)],3,[(0,some (.box (G0 D))),(2,some (.box [.i 0, .i 0]))]⟩ ?_ ?_) |refine A6 ?_|refine S1 ?_|refine Z1 ?_|refine Z2 ?_|(refine And.intro ?_ ?_<;>intro h<;>try first|(exfalso;omega)|exact absurd rfl h)|refine Z3 ?_|refine Z4 ?_|intro el hel hbB|intro el hel|intro ex|refine Z5 ?_|(refine B2 ?_ ?_;exact ⟨by kernel_rfl,by decide⟩)|refine B0 ?_ ?_|exact A9|refine A8 ?_ ?_|exact A7|(refine A3 ?_ ?_ ?_;kernel_rfl;kernel_rfl)) <;> (try (conv=>whnf)))
    all_goals first
     | (exfalso;omega)
     | exact B5 h0 rfl ⟨rfl,rfl,trivial⟩ ⟨rfl,rfl,trivial⟩ rfl rfl rfl
     | exact u6 (rs:=[.tmp 4, .tmp 5]) (vs:=[.sl 2 [], .i _]) rfl ⟨P3 rfl (.nil 2),P3 rfl (.refl _),trivial⟩ rfl
  | some x =>
    rw [hr] at q4
    have hI2:b8 (fun k=>F7 (F5 (p k)) D) (k + 1) = some (out ++ [x]):=by rw [b8,hI,hr]
    generalize F5 (p k) = dk at *
    obtain ⟨n,d⟩:=x
    repeat' ((first | refine A5 q1 ?_ | refine A5 q2 ?_ | refine A5 q4 ?_ | (refine I1 (id:=20) ⟨[(0,D1 a),(1,B8 b),(9, .ref 0 0),(10, .row 1 0 out.length),(12, .ref 2 0),(13, .i 0),(44, .i a.length),(45, .i k)],3,[(0,some (.box (G0 D))),(1,some (.row 31 2 0 (out.map AD))),(2,some (.box [.i n, .i d]))]⟩ ?_ ?_) |refine A6 ?_|refine S1 ?_|refine Z1 ?_|refine Z2 ?_|(refine And.intro ?_ ?_<;>intro h<;>try first|(exfalso;omega)|exact absurd rfl h)|refine Z3 ?_|refine Z4 ?_|intro el hel hbB|intro el hel|intro ex|refine Z5 ?_|(refine B2 ?_ ?_;exact ⟨by kernel_rfl,by decide⟩)|refine B0 ?_ ?_|exact A9|refine A8 ?_ ?_|exact A7|(refine A3 ?_ ?_ ?_;kernel_rfl;kernel_rfl)) <;> (try (conv=>whnf)))
    all_goals first
     | (exfalso;omega)
     | exact B5 h0 rfl ⟨rfl,rfl,rfl,rfl,rfl,rfl,rfl,rfl,trivial⟩ ⟨rfl,⟨_,rfl⟩,rfl,trivial⟩ rfl rfl rfl
     | exact ⟨(k + 1,out ++ [(n,d)]),⟨by dsimp only;omega,hI2⟩,by dsimp only;omega,B5 h0 rfl ⟨rfl,rfl,rfl,congrArg (fun z:Nat=>some (AV.row 1 0 z)) (by rw [List.length_append];rfl),rfl,rfl,trivial⟩ ⟨rfl,⟨_,congrArg (E3.row 31 2 _) (by rw [List.map_append];rfl)⟩,trivial⟩ rfl rfl rfl⟩
 ·have hkk:k = a.length:=by omega
  rw [hkk] at hI
  rw [hI]
  repeat' ((first|refine A6 ?_|refine S1 ?_|refine Z1 ?_|refine Z2 ?_|(refine And.intro ?_ ?_<;>intro h<;>try first|(exfalso;omega)|exact absurd rfl h)|refine Z3 ?_|refine Z4 ?_|intro el hel hbB|intro el hel|intro ex|refine Z5 ?_|(refine B2 ?_ ?_;exact ⟨by kernel_rfl,by decide⟩)|refine B0 ?_ ?_|exact A9|refine A8 ?_ ?_|exact A7|(refine A3 ?_ ?_ ?_;kernel_rfl;kernel_rfl)) <;> (try (conv=>whnf)))
  all_goals first
   | (exfalso;omega)
   | exact BA rfl rfl rfl
end Go.Proofs.YtbhegmcbpolemaaDoor

/- Cramer's rule, and the ratio of determinants, by the program. -/
import Derived.Test.YtbhegmcbpolemaaDoorTJl4
import Derived.Test.YtbhegmcbpolemaaDoorTJp7
set_option linter.unusedVariables false
set_option linter.unnecessarySimpa false
set_option linter.unusedSimpArgs false
namespace Go.Proofs.YtbhegmcbpolemaaDoor
open Go Go.Av
attribute [local irreducible] E4 B6 F1 E7 DQ F6 F9 St.le B5 D4
set_option maxRecDepth 100000
theorem AZ {a:List (List Int)} (h:F0 a = 0):a.length ≠ 0 ∧ a.length ≤ 5 ∧ (∀ r ∈ a,r.length = a.length) ∧ (∀ r ∈ a,∀ x ∈ r, -2147483648 ≤ x ∧ x ≤ 2147483648) ∧ I4 a ≤ J5:=by
 unfold F0 at h
 split at h
 ·cases h
 split at h
 ·cases h
 split at h
 ·cases h
 split at h
 ·cases h
 split at h
 ·cases h
 rename_i h1 h2 h3 h4 h5
 refine ⟨h1,by omega,fun r hr=>?_,fun r hr x hx=>?_,by unfold J5;omega⟩
 ·by_cases e:r.length = a.length
  ·exact e
  ·exact absurd (List.any_eq_true.2 ⟨r,hr,by simp [e]⟩) h3
 ·by_cases e:-2147483648 ≤ x ∧ x ≤ 2147483648
  ·exact e
  ·exact absurd (List.any_eq_true.2 ⟨r,hr,List.any_eq_true.2 ⟨x,hx,by simp;omega⟩⟩) h4
theorem l8 {a:List (List Int)} (h:F0 a = 0):-170141183460469231731687303715884105728 < E9 a ∧ E9 a < 170141183460469231731687303715884105728:=by
 obtain ⟨_,_,h3,_,h5⟩:=AZ h
 have:=Om a h3
 unfold J5 at h5
 omega
theorem x7 {a:List (List Int)} (h:F0 a = 0):B5 Tryd.prog 48 [B7 a] (D6 (E9 a)):=by
 obtain ⟨_,h2,h3,h4,_⟩:=AZ h
 exact Mt a h3 (by omega) fun r hr x hx=>by have:=h4 r hr x hx;omega
def QB (p:Int × (Int × Int)):AV:=.tup [Nv p.2, .i p.1]
set_option maxHeartbeats 16000000 in
theorem Js (a b:List (List Int)):B5 Tryd.prog 27 [B7 a,B7 b] (QB (BF a b)):=by
 have c1:=BI a
 have c2:=BI b
 unfold BF
 by_cases ha:F0 a = 0
 rotate_left
 ·rw [if_pos ha]
  generalize F0 a = e at *
  refine D1 Tryd.func27 33 fun hrd E h0=>?_
  clear hrd
  repeat' ((first | refine A4 c1 ?_ |refine A5 ?_|refine S1 ?_|refine Z1 ?_|refine Z2 ?_|(refine And.intro ?_ ?_<;>intro h<;>try first|(exfalso;omega)|exact absurd rfl h)|refine Z3 ?_|refine Z4 ?_|intro el hel hbB|intro el hel|intro ex|refine Z5 ?_|(refine B0 ?_ ?_;exact ⟨by kernel_rfl,by decide⟩)|refine A9 ?_ ?_|exact A8|refine A7 ?_ ?_|exact A6|(refine A3 ?_ ?_ ?_;kernel_rfl;kernel_rfl)) <;> (try (conv=>whnf)))
  all_goals first
   | (exfalso;omega)
   | exact E6 rfl rfl rfl (.refl _) rfl (.refl _) rfl
 rw [if_neg (by simp [ha])]
 rw [ha] at c1
 by_cases hb:F0 b = 0
 rotate_left
 ·rw [if_pos hb]
  generalize F0 b = e at *
  refine D1 Tryd.func27 33 fun hrd E h0=>?_
  clear hrd
  repeat' ((first | refine A4 c1 ?_ | refine A4 c2 ?_ |refine A5 ?_|refine S1 ?_|refine Z1 ?_|refine Z2 ?_|(refine And.intro ?_ ?_<;>intro h<;>try first|(exfalso;omega)|exact absurd rfl h)|refine Z3 ?_|refine Z4 ?_|intro el hel hbB|intro el hel|intro ex|refine Z5 ?_|(refine B0 ?_ ?_;exact ⟨by kernel_rfl,by decide⟩)|refine A9 ?_ ?_|exact A8|refine A7 ?_ ?_|exact A6|(refine A3 ?_ ?_ ?_;kernel_rfl;kernel_rfl)) <;> (try (conv=>whnf)))
  all_goals first
   | (exfalso;omega)
   | exact E6 rfl rfl rfl (.refl _) rfl (.refl _) rfl
 rw [if_neg (by simp [hb])]
 rw [hb] at c2
 have d1:=x7 ha
 have d2:=x7 hb
 have b1:=l8 ha
 have b2:=l8 hb
 have s2:=U1 (E9 b) (by omega)
 by_cases h0d:E9 b = 0
 ·rw [if_pos h0d]
  rw [h0d] at s2 d2
  rw [show (0:Int).sign = 0 from rfl] at s2
  refine D1 Tryd.func27 33 fun hrd E h0=>?_
  clear hrd
  repeat' ((first | refine A4 c1 ?_ | refine A4 c2 ?_ | refine A4 d2 ?_ | refine A4 s2 ?_ |refine A5 ?_|refine S1 ?_|refine Z1 ?_|refine Z2 ?_|(refine And.intro ?_ ?_<;>intro h<;>try first|(exfalso;omega)|exact absurd rfl h)|refine Z3 ?_|refine Z4 ?_|intro el hel hbB|intro el hel|intro ex|refine Z5 ?_|(refine B0 ?_ ?_;exact ⟨by kernel_rfl,by decide⟩)|refine A9 ?_ ?_|exact A8|refine A7 ?_ ?_|exact A6|(refine A3 ?_ ?_ ?_;kernel_rfl;kernel_rfl)) <;> (try (conv=>whnf)))
  all_goals first
   | (exfalso;omega)
   | exact E6 rfl rfl rfl (.refl _) rfl (.refl _) rfl
 rw [if_neg h0d]
 have hs:(E9 b).sign ≠ 0:=fun h=>h0d (Int.sign_eq_zero_iff_zero.1 h)
 have r1:=u3 (E9 a) (E9 b) b1 b2 h0d
 generalize (E9 b).sign = sg at *
 cases hr:M4 (E9 a) (E9 b) with
 | none =>
   rw [hr] at r1
   refine D1 Tryd.func27 33 fun hrd E h0=>?_
   clear hrd
   repeat' ((first | refine A4 c1 ?_ | refine A4 c2 ?_ | refine A4 d1 ?_ | refine A4 d2 ?_ | refine A4 s2 ?_ | refine A4 r1 ?_ | (refine F5 (id:=10) ⟨[(4, .ref 0 0),(5, .i 14)],2,[(0,some (.box [.i 0, .i 0])),(1,some (.box (D3 (E9 b))))]⟩ ?_ ?_) |refine A5 ?_|refine S1 ?_|refine Z1 ?_|refine Z2 ?_|(refine And.intro ?_ ?_<;>intro h<;>try first|(exfalso;omega)|exact absurd rfl h)|refine Z3 ?_|refine Z4 ?_|intro el hel hbB|intro el hel|intro ex|refine Z5 ?_|(refine B0 ?_ ?_;exact ⟨by kernel_rfl,by decide⟩)|refine A9 ?_ ?_|exact A8|refine A7 ?_ ?_|exact A6|(refine A3 ?_ ?_ ?_;kernel_rfl;kernel_rfl)) <;> (try (conv=>whnf)))
   all_goals first
    | (exfalso;omega)
    | exact B4 h0 rfl ⟨rfl,rfl,trivial⟩ ⟨rfl,rfl,trivial⟩ rfl rfl rfl
    | exact E6 rfl rfl rfl (.refl _) rfl (.refl _) rfl
 | some p =>
   rw [hr] at r1
   obtain ⟨n,d⟩:=p
   refine D1 Tryd.func27 33 fun hrd E h0=>?_
   clear hrd
   repeat' ((first | refine A4 c1 ?_ | refine A4 c2 ?_ | refine A4 d1 ?_ | refine A4 d2 ?_ | refine A4 s2 ?_ | refine A4 r1 ?_ | (refine F5 (id:=10) ⟨[(4, .ref 0 0),(5, .i 0)],2,[(0,some (.box [.i n, .i d])),(1,some (.box (D3 (E9 b))))]⟩ ?_ ?_) |refine A5 ?_|refine S1 ?_|refine Z1 ?_|refine Z2 ?_|(refine And.intro ?_ ?_<;>intro h<;>try first|(exfalso;omega)|exact absurd rfl h)|refine Z3 ?_|refine Z4 ?_|intro el hel hbB|intro el hel|intro ex|refine Z5 ?_|(refine B0 ?_ ?_;exact ⟨by kernel_rfl,by decide⟩)|refine A9 ?_ ?_|exact A8|refine A7 ?_ ?_|exact A6|(refine A3 ?_ ?_ ?_;kernel_rfl;kernel_rfl)) <;> (try (conv=>whnf)))
   all_goals first
    | (exfalso;omega)
    | exact B4 h0 rfl ⟨rfl,rfl,trivial⟩ ⟨rfl,rfl,trivial⟩ rfl rfl rfl
    | exact E6 rfl rfl rfl (.refl _) rfl (.refl _) rfl
abbrev Aa (q:Int × Int):List AV:=[.i q.1, .i q.2]
def QC (p:Int × List (Int × Int)):AV:=.tup [.sl 2 (p.2.map Aa), .i p.1]
set_option maxHeartbeats 16000000 in
theorem Jt (a:List (List Int)) (b:List Int):B5 Tryd.prog 26 [B7 a,B8 b] (QC (m6 a b)):=by
 have c1:=BI a
 unfold m6
 by_cases ha:F0 a = 0
 rotate_left
 ·rw [if_pos ha]
  generalize F0 a = e at *
  refine D1 Tryd.func26 67 fun hrd E h0=>?_
  clear hrd
  repeat' ((first | refine A4 c1 ?_ |refine A5 ?_|refine S1 ?_|refine Z1 ?_|refine Z2 ?_|(refine And.intro ?_ ?_<;>intro h<;>try first|(exfalso;omega)|exact absurd rfl h)|refine Z3 ?_|refine Z4 ?_|intro el hel hbB|intro el hel|intro ex|refine Z5 ?_|(refine B0 ?_ ?_;exact ⟨by kernel_rfl,by decide⟩)|refine A9 ?_ ?_|exact A8|refine A7 ?_ ?_|exact A6|(refine A3 ?_ ?_ ?_;kernel_rfl;kernel_rfl)) <;> (try (conv=>whnf)))
  all_goals first
   | (exfalso;omega)
   | exact S0 (rs:=[.tmp 4, .tmp 5]) (vs:=[.sl 2 [], .i _]) rfl ⟨H6 rfl (.nil 2),H6 rfl (.refl _),trivial⟩ rfl
 rw [if_neg (by simp [ha])]
 rw [ha] at c1
 obtain ⟨a1,a2,a3,a4,a5⟩:=AZ ha
 by_cases hbl:b.length = a.length
 rotate_left
 ·rw [if_pos hbl]
  refine D1 Tryd.func26 67 fun hrd E h0=>?_
  clear hrd
  repeat' ((first | refine A4 c1 ?_ |refine A5 ?_|refine S1 ?_|refine Z1 ?_|refine Z2 ?_|(refine And.intro ?_ ?_<;>intro h<;>try first|(exfalso;omega)|exact absurd rfl h)|refine Z3 ?_|refine Z4 ?_|intro el hel hbB|intro el hel|intro ex|refine Z5 ?_|(refine B0 ?_ ?_;exact ⟨by kernel_rfl,by decide⟩)|refine A9 ?_ ?_|exact A8|refine A7 ?_ ?_|exact A6|(refine A3 ?_ ?_ ?_;kernel_rfl;kernel_rfl)) <;> (try (conv=>whnf)))
  all_goals first
   | (exfalso;omega)
   | exact S0 (rs:=[.tmp 4, .tmp 5]) (vs:=[.sl 2 [], .i _]) rfl ⟨H6 rfl (.nil 2),H6 rfl (.refl _),trivial⟩ rfl
 rw [if_neg (by simp [hbl])]
 have hpl:∀ k,(I5 a b k).length = a.length:=fun k=>BH a b k
 have hpc:∀ k,k < a.length → B5 Tryd.prog 47 [B7 a, .i k,B8 b] (B7 (I5 a b k)):=fun k hk=>Fy a b k a3 hbl hk (by omega)
 have hcc:∀ k,B5 Tryd.prog 46 [B7 (I5 a b k)] (.i (F0 (I5 a b k))):=fun k=>BI _
 have hdd:∀ k,F0 (I5 a b k) = 0 → B5 Tryd.prog 48 [B7 (I5 a b k)] (D6 (E9 (I5 a b k))):=fun k h=>x7 h
 have hbd:∀ k,F0 (I5 a b k) = 0 → -170141183460469231731687303715884105728 < E9 (I5 a b k) ∧ E9 (I5 a b k) < 170141183460469231731687303715884105728:=fun k h=>l8 h
 have d1:=x7 ha
 have b1:=l8 ha
 have s1:=U1 (E9 a) (by omega)
 generalize hp:(fun k=>I5 a b k) = p at *
 have hp2:∀ k,I5 a b k = p k:=fun k=>by rw [← hp]
 simp only [hp2] at *
 clear hp hp2
 generalize E9 a = D at *
 refine D1 Tryd.func26 67 fun hrd E h0=>?_
 clear hrd
 repeat' ((first | refine A4 c1 ?_ |refine A5 ?_|refine S1 ?_|refine Z1 ?_|refine Z2 ?_|(refine And.intro ?_ ?_<;>intro h<;>try first|(exfalso;omega)|exact absurd rfl h)|refine Z3 ?_|refine Z4 ?_|intro el hel hbB|intro el hel|intro ex|refine Z5 ?_|(refine B0 ?_ ?_;exact ⟨by kernel_rfl,by decide⟩)|refine A9 ?_ ?_|exact A8|refine A7 ?_ ?_|exact A6|(refine A3 ?_ ?_ ?_;kernel_rfl;kernel_rfl)) <;> (try (conv=>whnf)))
 all_goals first
  | (exfalso;omega)
  | skip
 refine D7 (ι:=Nat) (fun k=>⟨[(0,B7 a),(1,B8 b),(25, .i a.length),(26, .i k)],0,[]⟩) (fun k=>k ≤ a.length ∧ V3 (fun k=>F0 (p k)) k = 0) (fun k=>a.length - k) 0 ⟨Nat.zero_le _,rfl⟩
  (B4 h0 rfl ⟨rfl,rfl,rfl,rfl,trivial⟩ trivial rfl rfl rfl) (fun k hI=>?_)
 obtain ⟨hk,hI⟩:=hI
 by_cases hkl:k < a.length
 ·have q1:=hpc k hkl
  have q2:=hcc k
  by_cases hz:F0 (p k) = 0
  ·rw [hz] at q2
   have hI2:V3 (fun k=>F0 (p k)) (k + 1) = 0:=by rw [V3,if_neg (by simp [hI])];exact hz
   repeat' ((first | refine A4 q1 ?_ | refine A4 q2 ?_ |refine A5 ?_|refine S1 ?_|refine Z1 ?_|refine Z2 ?_|(refine And.intro ?_ ?_<;>intro h<;>try first|(exfalso;omega)|exact absurd rfl h)|refine Z3 ?_|refine Z4 ?_|intro el hel hbB|intro el hel|intro ex|refine Z5 ?_|(refine B0 ?_ ?_;exact ⟨by kernel_rfl,by decide⟩)|refine A9 ?_ ?_|exact A8|refine A7 ?_ ?_|exact A6|(refine A3 ?_ ?_ ?_;kernel_rfl;kernel_rfl)) <;> (try (conv=>whnf)))
   all_goals first
    | (exfalso;omega)
    | exact ⟨k + 1,⟨by omega,hI2⟩,by omega,B4 h0 rfl ⟨rfl,rfl,rfl,rfl,trivial⟩ trivial rfl rfl rfl⟩
  ·rw [if_pos (by rw [CX hI hz hkl];exact hz),CX (f:=fun k=>F0 (p k)) hI hz hkl]
   generalize F0 (p k) = e at *
   repeat' ((first | refine A4 q1 ?_ | refine A4 q2 ?_ |refine A5 ?_|refine S1 ?_|refine Z1 ?_|refine Z2 ?_|(refine And.intro ?_ ?_<;>intro h<;>try first|(exfalso;omega)|exact absurd rfl h)|refine Z3 ?_|refine Z4 ?_|intro el hel hbB|intro el hel|intro ex|refine Z5 ?_|(refine B0 ?_ ?_;exact ⟨by kernel_rfl,by decide⟩)|refine A9 ?_ ?_|exact A8|refine A7 ?_ ?_|exact A6|(refine A3 ?_ ?_ ?_;kernel_rfl;kernel_rfl)) <;> (try (conv=>whnf)))
   all_goals first
    | (exfalso;omega)
    | exact S0 (rs:=[.tmp 4, .tmp 5]) (vs:=[.sl 2 [], .i _]) rfl ⟨H6 rfl (.nil 2),H6 rfl (.refl _),trivial⟩ rfl
 have hkk:k = a.length:=by omega
 subst hkk
 have hz:=Fl hI
 rw [if_neg (by simp [hI])]
 clear hI
 by_cases h0d:D = 0
 ·subst h0d
  rw [if_pos rfl]
  rw [show (0:Int).sign = 0 from rfl] at s1
  repeat' ((first | refine A4 d1 ?_ | refine A4 s1 ?_ |refine A5 ?_|refine S1 ?_|refine Z1 ?_|refine Z2 ?_|(refine And.intro ?_ ?_<;>intro h<;>try first|(exfalso;omega)|exact absurd rfl h)|refine Z3 ?_|refine Z4 ?_|intro el hel hbB|intro el hel|intro ex|refine Z5 ?_|(refine B0 ?_ ?_;exact ⟨by kernel_rfl,by decide⟩)|refine A9 ?_ ?_|exact A8|refine A7 ?_ ?_|exact A6|(refine A3 ?_ ?_ ?_;kernel_rfl;kernel_rfl)) <;> (try (conv=>whnf)))
  all_goals first
   | (exfalso;omega)
   | exact S0 (rs:=[.tmp 4, .tmp 5]) (vs:=[.sl 2 [], .i _]) rfl ⟨H6 rfl (.nil 2),H6 rfl (.refl _),trivial⟩ rfl
 rw [if_neg h0d]
 have hs:D.sign ≠ 0:=fun h=>h0d (Int.sign_eq_zero_iff_zero.1 h)
 generalize D.sign = sg at *
 repeat' ((first | refine A4 d1 ?_ | refine A4 s1 ?_ |refine A5 ?_|refine S1 ?_|refine Z1 ?_|refine Z2 ?_|(refine And.intro ?_ ?_<;>intro h<;>try first|(exfalso;omega)|exact absurd rfl h)|refine Z3 ?_|refine Z4 ?_|intro el hel hbB|intro el hel|intro ex|refine Z5 ?_|(refine B0 ?_ ?_;exact ⟨by kernel_rfl,by decide⟩)|refine A9 ?_ ?_|exact A8|refine A7 ?_ ?_|exact A6|(refine A3 ?_ ?_ ?_;kernel_rfl;kernel_rfl)) <;> (try (conv=>whnf)))
 all_goals first
  | (exfalso;omega)
  | skip
 refine D7 (ι:=Nat × List (Int × Int)) (fun s=>⟨[(0,B7 a),(1,B8 b),(9, .ref 0 0),(10, .row 1 0 s.2.length),(44, .i a.length),(45, .i s.1)],2,[(0,some (.box (D3 D))),(1,some (.row 31 2 0 (s.2.map Aa)))]⟩) (fun s=>s.1 ≤ a.length ∧ m5 (fun k=>M4 (E9 (p k)) D) s.1 = some s.2) (fun s=>a.length - s.1) (0,[]) ⟨Nat.zero_le _,rfl⟩
  (E0 (N0 (d:=10) (e:=31) (sz:=2) rfl) (B4 h0 rfl ⟨rfl,rfl,rfl,rfl,rfl,rfl,trivial⟩ ⟨rfl,⟨0,rfl⟩,trivial⟩ rfl rfl rfl)) (fun s hI=>?_)
 obtain ⟨k,out⟩:=s
 obtain ⟨hk,hI⟩:=hI
 dsimp only at hk hI ⊢
 have hol:=BE hI
 by_cases hkl:k < a.length
 ·have q1:=hpc k hkl
  have q2:=hdd k (hz k hkl)
  have q3:=hbd k (hz k hkl)
  have q4:=u3 (E9 (p k)) D q3 b1 h0d
  cases hr:M4 (E9 (p k)) D with
  | none =>
    rw [hr] at q4
    rw [Fk (f:=fun k=>M4 (E9 (p k)) D) hr hkl]
    generalize E9 (p k) = dk at *
    repeat' ((first | refine A4 q1 ?_ | refine A4 q2 ?_ | refine A4 q4 ?_ | (refine F5 (id:=20) ⟨[(12, .ref 2 0),(13, .i 14)],3,[(0,some (.box (D3 D))),(2,some (.box [.i 0, .i 0]))]⟩ ?_ ?_) |refine A5 ?_|refine S1 ?_|refine Z1 ?_|refine Z2 ?_|(refine And.intro ?_ ?_<;>intro h<;>try first|(exfalso;omega)|exact absurd rfl h)|refine Z3 ?_|refine Z4 ?_|intro el hel hbB|intro el hel|intro ex|refine Z5 ?_|(refine B0 ?_ ?_;exact ⟨by kernel_rfl,by decide⟩)|refine A9 ?_ ?_|exact A8|refine A7 ?_ ?_|exact A6|(refine A3 ?_ ?_ ?_;kernel_rfl;kernel_rfl)) <;> (try (conv=>whnf)))
    all_goals first
     | (exfalso;omega)
     | exact B4 h0 rfl ⟨rfl,rfl,trivial⟩ ⟨rfl,rfl,trivial⟩ rfl rfl rfl
     | exact S0 (rs:=[.tmp 4, .tmp 5]) (vs:=[.sl 2 [], .i _]) rfl ⟨H6 rfl (.nil 2),H6 rfl (.refl _),trivial⟩ rfl
  | some x =>
    rw [hr] at q4
    have hI2:m5 (fun k=>M4 (E9 (p k)) D) (k + 1) = some (out ++ [x]):=by rw [m5,hI,hr]
    generalize E9 (p k) = dk at *
    obtain ⟨n,d⟩:=x
    repeat' ((first | refine A4 q1 ?_ | refine A4 q2 ?_ | refine A4 q4 ?_ | (refine F5 (id:=20) ⟨[(0,B7 a),(1,B8 b),(9, .ref 0 0),(10, .row 1 0 out.length),(12, .ref 2 0),(13, .i 0),(44, .i a.length),(45, .i k)],3,[(0,some (.box (D3 D))),(1,some (.row 31 2 0 (out.map Aa))),(2,some (.box [.i n, .i d]))]⟩ ?_ ?_) |refine A5 ?_|refine S1 ?_|refine Z1 ?_|refine Z2 ?_|(refine And.intro ?_ ?_<;>intro h<;>try first|(exfalso;omega)|exact absurd rfl h)|refine Z3 ?_|refine Z4 ?_|intro el hel hbB|intro el hel|intro ex|refine Z5 ?_|(refine B0 ?_ ?_;exact ⟨by kernel_rfl,by decide⟩)|refine A9 ?_ ?_|exact A8|refine A7 ?_ ?_|exact A6|(refine A3 ?_ ?_ ?_;kernel_rfl;kernel_rfl)) <;> (try (conv=>whnf)))
    all_goals first
     | (exfalso;omega)
     | exact B4 h0 rfl ⟨rfl,rfl,rfl,rfl,rfl,rfl,rfl,rfl,trivial⟩ ⟨rfl,⟨_,rfl⟩,rfl,trivial⟩ rfl rfl rfl
     | exact ⟨(k + 1,out ++ [(n,d)]),⟨by dsimp only;omega,hI2⟩,by dsimp only;omega,B4 h0 rfl ⟨rfl,rfl,rfl,congrArg (fun z:Nat=>some (AV.row 1 0 z)) (by rw [List.length_append];rfl),rfl,rfl,trivial⟩ ⟨rfl,⟨_,congrArg (D9.row 31 2 _) (by rw [List.map_append];rfl)⟩,trivial⟩ rfl rfl rfl⟩
 ·have hkk:k = a.length:=by omega
  rw [hkk] at hI
  rw [hI]
  repeat' ((first|refine A5 ?_|refine S1 ?_|refine Z1 ?_|refine Z2 ?_|(refine And.intro ?_ ?_<;>intro h<;>try first|(exfalso;omega)|exact absurd rfl h)|refine Z3 ?_|refine Z4 ?_|intro el hel hbB|intro el hel|intro ex|refine Z5 ?_|(refine B0 ?_ ?_;exact ⟨by kernel_rfl,by decide⟩)|refine A9 ?_ ?_|exact A8|refine A7 ?_ ?_|exact A6|(refine A3 ?_ ?_ ?_;kernel_rfl;kernel_rfl)) <;> (try (conv=>whnf)))
  all_goals first
   | (exfalso;omega)
   | exact s8 rfl rfl rfl
end Go.Proofs.YtbhegmcbpolemaaDoor

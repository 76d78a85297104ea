/- Cramer's rule, and the ratio of determinants, by the program. -/
import Derived.Test.YtbhegmcbpolemaaDoorQJl4
import Derived.Test.YtbhegmcbpolemaaDoorQJp7
set_option linter.unusedVariables false
set_option linter.unnecessarySimpa false
set_option linter.unusedSimpArgs false
namespace Go.Proofs.YtbhegmcbpolemaaDoor
open Go Go.Av
attribute [local irreducible] E2 B3 G0 F3 DQ H4 H7 St.le B7 E1
set_option maxRecDepth 100000
theorem EV {a:List (List Int)} (h:G8 a = 0):a.length ≠ 0 ∧ a.length ≤ 5 ∧ (∀ r ∈ a,r.length = a.length) ∧ (∀ r ∈ a,∀ x ∈ r, -2147483648 ≤ x ∧ x ≤ 2147483648) ∧ N5 a ≤ Q8:=by
 unfold G8 at h
 split at h
 ·cases h
 split at h
 ·cases h
 split at h
 ·cases h
 split at h
 ·cases h
 split at h
 ·cases h
 rename_i h1 h2 h3 h4 h5
 refine ⟨h1,by omega,fun r hr=>?_,fun r hr x hx=>?_,by unfold Q8;omega⟩
 ·by_cases e:r.length = a.length
  ·exact e
  ·exact absurd (List.any_eq_true.2 ⟨r,hr,by simp [e]⟩) h3
 ·by_cases e:-2147483648 ≤ x ∧ x ≤ 2147483648
  ·exact e
  ·exact absurd (List.any_eq_true.2 ⟨r,hr,List.any_eq_true.2 ⟨x,hx,by simp;omega⟩⟩) h4
theorem EB {a:List (List Int)} (h:G8 a = 0):-170141183460469231731687303715884105728 < F1 a ∧ F1 a < 170141183460469231731687303715884105728:=by
 obtain ⟨_,_,h3,_,h5⟩:=EV h
 have:=OX a h3
 unfold Q8 at h5
 omega
theorem w8 {a:List (List Int)} (h:G8 a = 0):B7 Tryd.prog 48 [D3 a] (I4 (F1 a)):=by
 obtain ⟨_,h2,h3,h4,_⟩:=EV h
 exact Ml a h3 (by omega) fun r hr x hx=>by have:=h4 r hr x hx;omega
def Qu (p:Int × (Int × Int)):AV:=.tup [Po p.2, .i p.1]
set_option maxHeartbeats 16000000 in
theorem Jf (a b:List (List Int)):B7 Tryd.prog 27 [D3 a,D3 b] (Qu (AB a b)):=by
 have c1:=Ay a
 have c2:=Ay b
 unfold AB
 by_cases ha:G8 a = 0
 rotate_left
 ·rw [if_pos ha]
  generalize G8 a = e at *
  refine F0 Tryd.func27 33 fun hrd E h0=>?_
  clear hrd
  repeat' ((first | refine A8 c1 ?_ |refine A5 ?_|refine S1 ?_|refine Z1 ?_|refine Z2 ?_|(refine And.intro ?_ ?_<;>intro h<;>try first|(exfalso;omega)|exact absurd rfl h)|refine Z3 ?_|refine Z4 ?_|intro el hel hbB|intro el hel|intro ex|refine Z5 ?_|(refine B2 ?_ ?_;exact ⟨by kernel_rfl,by decide⟩)|refine B0 ?_ ?_|exact A9|refine A7 ?_ ?_|exact A6|(refine A3 ?_ ?_ ?_;kernel_rfl;kernel_rfl)) <;> (try (conv=>whnf)))
  all_goals first
   | (exfalso;omega)
   | exact K3 rfl rfl rfl (.refl _) rfl (.refl _) rfl
 rw [if_neg (by simp [ha])]
 rw [ha] at c1
 by_cases hb:G8 b = 0
 rotate_left
 ·rw [if_pos hb]
  generalize G8 b = e at *
  refine F0 Tryd.func27 33 fun hrd E h0=>?_
  clear hrd
  repeat' ((first | refine A8 c1 ?_ | refine A8 c2 ?_ |refine A5 ?_|refine S1 ?_|refine Z1 ?_|refine Z2 ?_|(refine And.intro ?_ ?_<;>intro h<;>try first|(exfalso;omega)|exact absurd rfl h)|refine Z3 ?_|refine Z4 ?_|intro el hel hbB|intro el hel|intro ex|refine Z5 ?_|(refine B2 ?_ ?_;exact ⟨by kernel_rfl,by decide⟩)|refine B0 ?_ ?_|exact A9|refine A7 ?_ ?_|exact A6|(refine A3 ?_ ?_ ?_;kernel_rfl;kernel_rfl)) <;> (try (conv=>whnf)))
  all_goals first
   | (exfalso;omega)
   | exact K3 rfl rfl rfl (.refl _) rfl (.refl _) rfl
 rw [if_neg (by simp [hb])]
 rw [hb] at c2
 have d1:=w8 ha
 have d2:=w8 hb
 have b1:=EB ha
 have b2:=EB hb
 have s2:=T3 (F1 b) (by omega)
 by_cases h0d:F1 b = 0
 ·rw [if_pos h0d]
  rw [h0d] at s2 d2
  rw [show (0:Int).sign = 0 from rfl] at s2
  refine F0 Tryd.func27 33 fun hrd E h0=>?_
  clear hrd
  repeat' ((first | refine A8 c1 ?_ | refine A8 c2 ?_ | refine A8 d2 ?_ | refine A8 s2 ?_ |refine A5 ?_|refine S1 ?_|refine Z1 ?_|refine Z2 ?_|(refine And.intro ?_ ?_<;>intro h<;>try first|(exfalso;omega)|exact absurd rfl h)|refine Z3 ?_|refine Z4 ?_|intro el hel hbB|intro el hel|intro ex|refine Z5 ?_|(refine B2 ?_ ?_;exact ⟨by kernel_rfl,by decide⟩)|refine B0 ?_ ?_|exact A9|refine A7 ?_ ?_|exact A6|(refine A3 ?_ ?_ ?_;kernel_rfl;kernel_rfl)) <;> (try (conv=>whnf)))
  all_goals first
   | (exfalso;omega)
   | exact K3 rfl rfl rfl (.refl _) rfl (.refl _) rfl
 rw [if_neg h0d]
 have hs:(F1 b).sign ≠ 0:=fun h=>h0d (Int.sign_eq_zero_iff_zero.1 h)
 have r1:=r8 (F1 a) (F1 b) b1 b2 h0d
 generalize (F1 b).sign = sg at *
 cases hr:K5 (F1 a) (F1 b) with
 | none =>
   rw [hr] at r1
   refine F0 Tryd.func27 33 fun hrd E h0=>?_
   clear hrd
   repeat' ((first | refine A8 c1 ?_ | refine A8 c2 ?_ | refine A8 d1 ?_ | refine A8 d2 ?_ | refine A8 s2 ?_ | refine A8 r1 ?_ | (refine J3 (id:=10) ⟨[(4, .ref 0 0),(5, .i 14)],2,[(0,some (.box [.i 0, .i 0])),(1,some (.box (G1 (F1 b))))]⟩ ?_ ?_) |refine A5 ?_|refine S1 ?_|refine Z1 ?_|refine Z2 ?_|(refine And.intro ?_ ?_<;>intro h<;>try first|(exfalso;omega)|exact absurd rfl h)|refine Z3 ?_|refine Z4 ?_|intro el hel hbB|intro el hel|intro ex|refine Z5 ?_|(refine B2 ?_ ?_;exact ⟨by kernel_rfl,by decide⟩)|refine B0 ?_ ?_|exact A9|refine A7 ?_ ?_|exact A6|(refine A3 ?_ ?_ ?_;kernel_rfl;kernel_rfl)) <;> (try (conv=>whnf)))
   all_goals first
    | (exfalso;omega)
    | exact B4 h0 rfl ⟨rfl,rfl,trivial⟩ ⟨rfl,rfl,trivial⟩ rfl rfl rfl
    | exact K3 rfl rfl rfl (.refl _) rfl (.refl _) rfl
 | some p =>
   rw [hr] at r1
   obtain ⟨n,d⟩:=p
   refine F0 Tryd.func27 33 fun hrd E h0=>?_
   clear hrd
   repeat' ((first | refine A8 c1 ?_ | refine A8 c2 ?_ | refine A8 d1 ?_ | refine A8 d2 ?_ | refine A8 s2 ?_ | refine A8 r1 ?_ | (refine J3 (id:=10) ⟨[(4, .ref 0 0),(5, .i 0)],2,[(0,some (.box [.i n, .i d])),(1,some (.box (G1 (F1 b))))]⟩ ?_ ?_) |refine A5 ?_|refine S1 ?_|refine Z1 ?_|refine Z2 ?_|(refine And.intro ?_ ?_<;>intro h<;>try first|(exfalso;omega)|exact absurd rfl h)|refine Z3 ?_|refine Z4 ?_|intro el hel hbB|intro el hel|intro ex|refine Z5 ?_|(refine B2 ?_ ?_;exact ⟨by kernel_rfl,by decide⟩)|refine B0 ?_ ?_|exact A9|refine A7 ?_ ?_|exact A6|(refine A3 ?_ ?_ ?_;kernel_rfl;kernel_rfl)) <;> (try (conv=>whnf)))
   all_goals first
    | (exfalso;omega)
    | exact B4 h0 rfl ⟨rfl,rfl,trivial⟩ ⟨rfl,rfl,trivial⟩ rfl rfl rfl
    | exact K3 rfl rfl rfl (.refl _) rfl (.refl _) rfl
abbrev BH (q:Int × Int):List AV:=[.i q.1, .i q.2]
def Qv (p:Int × List (Int × Int)):AV:=.tup [.sl 2 (p.2.map BH), .i p.1]
set_option maxHeartbeats 16000000 in
theorem Jg (a:List (List Int)) (b:List Int):B7 Tryd.prog 26 [D3 a,B9 b] (Qv (U6 a b)):=by
 have c1:=Ay a
 unfold U6
 by_cases ha:G8 a = 0
 rotate_left
 ·rw [if_pos ha]
  generalize G8 a = e at *
  refine F0 Tryd.func26 67 fun hrd E h0=>?_
  clear hrd
  repeat' ((first | refine A8 c1 ?_ |refine A5 ?_|refine S1 ?_|refine Z1 ?_|refine Z2 ?_|(refine And.intro ?_ ?_<;>intro h<;>try first|(exfalso;omega)|exact absurd rfl h)|refine Z3 ?_|refine Z4 ?_|intro el hel hbB|intro el hel|intro ex|refine Z5 ?_|(refine B2 ?_ ?_;exact ⟨by kernel_rfl,by decide⟩)|refine B0 ?_ ?_|exact A9|refine A7 ?_ ?_|exact A6|(refine A3 ?_ ?_ ?_;kernel_rfl;kernel_rfl)) <;> (try (conv=>whnf)))
  all_goals first
   | (exfalso;omega)
   | exact AF (rs:=[.tmp 4, .tmp 5]) (vs:=[.sl 2 [], .i _]) rfl ⟨O4 rfl (.nil 2),O4 rfl (.refl _),trivial⟩ rfl
 rw [if_neg (by simp [ha])]
 rw [ha] at c1
 obtain ⟨a1,a2,a3,a4,a5⟩:=EV ha
 by_cases hbl:b.length = a.length
 rotate_left
 ·rw [if_pos hbl]
  refine F0 Tryd.func26 67 fun hrd E h0=>?_
  clear hrd
  repeat' ((first | refine A8 c1 ?_ |refine A5 ?_|refine S1 ?_|refine Z1 ?_|refine Z2 ?_|(refine And.intro ?_ ?_<;>intro h<;>try first|(exfalso;omega)|exact absurd rfl h)|refine Z3 ?_|refine Z4 ?_|intro el hel hbB|intro el hel|intro ex|refine Z5 ?_|(refine B2 ?_ ?_;exact ⟨by kernel_rfl,by decide⟩)|refine B0 ?_ ?_|exact A9|refine A7 ?_ ?_|exact A6|(refine A3 ?_ ?_ ?_;kernel_rfl;kernel_rfl)) <;> (try (conv=>whnf)))
  all_goals first
   | (exfalso;omega)
   | exact AF (rs:=[.tmp 4, .tmp 5]) (vs:=[.sl 2 [], .i _]) rfl ⟨O4 rfl (.nil 2),O4 rfl (.refl _),trivial⟩ rfl
 rw [if_neg (by simp [hbl])]
 have hpl:∀ k,(J4 a b k).length = a.length:=fun k=>Ax a b k
 have hpc:∀ k,k < a.length → B7 Tryd.prog 47 [D3 a, .i k,B9 b] (D3 (J4 a b k)):=fun k hk=>FU a b k a3 hbl hk (by omega)
 have hcc:∀ k,B7 Tryd.prog 46 [D3 (J4 a b k)] (.i (G8 (J4 a b k))):=fun k=>Ay _
 have hdd:∀ k,G8 (J4 a b k) = 0 → B7 Tryd.prog 48 [D3 (J4 a b k)] (I4 (F1 (J4 a b k))):=fun k h=>w8 h
 have hbd:∀ k,G8 (J4 a b k) = 0 → -170141183460469231731687303715884105728 < F1 (J4 a b k) ∧ F1 (J4 a b k) < 170141183460469231731687303715884105728:=fun k h=>EB h
 have d1:=w8 ha
 have b1:=EB ha
 have s1:=T3 (F1 a) (by omega)
 generalize hp:(fun k=>J4 a b k) = p at *
 have hp2:∀ k,J4 a b k = p k:=fun k=>by rw [← hp]
 simp only [hp2] at *
 clear hp hp2
 generalize F1 a = D at *
 refine F0 Tryd.func26 67 fun hrd E h0=>?_
 clear hrd
 repeat' ((first | refine A8 c1 ?_ |refine A5 ?_|refine S1 ?_|refine Z1 ?_|refine Z2 ?_|(refine And.intro ?_ ?_<;>intro h<;>try first|(exfalso;omega)|exact absurd rfl h)|refine Z3 ?_|refine Z4 ?_|intro el hel hbB|intro el hel|intro ex|refine Z5 ?_|(refine B2 ?_ ?_;exact ⟨by kernel_rfl,by decide⟩)|refine B0 ?_ ?_|exact A9|refine A7 ?_ ?_|exact A6|(refine A3 ?_ ?_ ?_;kernel_rfl;kernel_rfl)) <;> (try (conv=>whnf)))
 all_goals first
  | (exfalso;omega)
  | skip
 refine F4 (ι:=Nat) (fun k=>⟨[(0,D3 a),(1,B9 b),(25, .i a.length),(26, .i k)],0,[]⟩) (fun k=>k ≤ a.length ∧ T4 (fun k=>G8 (p k)) k = 0) (fun k=>a.length - k) 0 ⟨Nat.zero_le _,rfl⟩
  (B4 h0 rfl ⟨rfl,rfl,rfl,rfl,trivial⟩ trivial rfl rfl rfl) (fun k hI=>?_)
 obtain ⟨hk,hI⟩:=hI
 by_cases hkl:k < a.length
 ·have q1:=hpc k hkl
  have q2:=hcc k
  by_cases hz:G8 (p k) = 0
  ·rw [hz] at q2
   have hI2:T4 (fun k=>G8 (p k)) (k + 1) = 0:=by rw [T4,if_neg (by simp [hI])];exact hz
   repeat' ((first | refine A8 q1 ?_ | refine A8 q2 ?_ |refine A5 ?_|refine S1 ?_|refine Z1 ?_|refine Z2 ?_|(refine And.intro ?_ ?_<;>intro h<;>try first|(exfalso;omega)|exact absurd rfl h)|refine Z3 ?_|refine Z4 ?_|intro el hel hbB|intro el hel|intro ex|refine Z5 ?_|(refine B2 ?_ ?_;exact ⟨by kernel_rfl,by decide⟩)|refine B0 ?_ ?_|exact A9|refine A7 ?_ ?_|exact A6|(refine A3 ?_ ?_ ?_;kernel_rfl;kernel_rfl)) <;> (try (conv=>whnf)))
   all_goals first
    | (exfalso;omega)
    | exact ⟨k + 1,⟨by omega,hI2⟩,by omega,B4 h0 rfl ⟨rfl,rfl,rfl,rfl,trivial⟩ trivial rfl rfl rfl⟩
  ·rw [if_pos (by rw [IH hI hz hkl];exact hz),IH (f:=fun k=>G8 (p k)) hI hz hkl]
   generalize G8 (p k) = e at *
   repeat' ((first | refine A8 q1 ?_ | refine A8 q2 ?_ |refine A5 ?_|refine S1 ?_|refine Z1 ?_|refine Z2 ?_|(refine And.intro ?_ ?_<;>intro h<;>try first|(exfalso;omega)|exact absurd rfl h)|refine Z3 ?_|refine Z4 ?_|intro el hel hbB|intro el hel|intro ex|refine Z5 ?_|(refine B2 ?_ ?_;exact ⟨by kernel_rfl,by decide⟩)|refine B0 ?_ ?_|exact A9|refine A7 ?_ ?_|exact A6|(refine A3 ?_ ?_ ?_;kernel_rfl;kernel_rfl)) <;> (try (conv=>whnf)))
   all_goals first
    | (exfalso;omega)
    | exact AF (rs:=[.tmp 4, .tmp 5]) (vs:=[.sl 2 [], .i _]) rfl ⟨O4 rfl (.nil 2),O4 rfl (.refl _),trivial⟩ rfl
 have hkk:k = a.length:=by omega
 subst hkk
 have hz:=Kx hI
 rw [if_neg (by simp [hI])]
 clear hI
 by_cases h0d:D = 0
 ·subst h0d
  rw [if_pos rfl]
  rw [show (0:Int).sign = 0 from rfl] at s1
  repeat' ((first | refine A8 d1 ?_ | refine A8 s1 ?_ |refine A5 ?_|refine S1 ?_|refine Z1 ?_|refine Z2 ?_|(refine And.intro ?_ ?_<;>intro h<;>try first|(exfalso;omega)|exact absurd rfl h)|refine Z3 ?_|refine Z4 ?_|intro el hel hbB|intro el hel|intro ex|refine Z5 ?_|(refine B2 ?_ ?_;exact ⟨by kernel_rfl,by decide⟩)|refine B0 ?_ ?_|exact A9|refine A7 ?_ ?_|exact A6|(refine A3 ?_ ?_ ?_;kernel_rfl;kernel_rfl)) <;> (try (conv=>whnf)))
  all_goals first
   | (exfalso;omega)
   | exact AF (rs:=[.tmp 4, .tmp 5]) (vs:=[.sl 2 [], .i _]) rfl ⟨O4 rfl (.nil 2),O4 rfl (.refl _),trivial⟩ rfl
 rw [if_neg h0d]
 have hs:D.sign ≠ 0:=fun h=>h0d (Int.sign_eq_zero_iff_zero.1 h)
 generalize D.sign = sg at *
 repeat' ((first | refine A8 d1 ?_ | refine A8 s1 ?_ |refine A5 ?_|refine S1 ?_|refine Z1 ?_|refine Z2 ?_|(refine And.intro ?_ ?_<;>intro h<;>try first|(exfalso;omega)|exact absurd rfl h)|refine Z3 ?_|refine Z4 ?_|intro el hel hbB|intro el hel|intro ex|refine Z5 ?_|(refine B2 ?_ ?_;exact ⟨by kernel_rfl,by decide⟩)|refine B0 ?_ ?_|exact A9|refine A7 ?_ ?_|exact A6|(refine A3 ?_ ?_ ?_;kernel_rfl;kernel_rfl)) <;> (try (conv=>whnf)))
 all_goals first
  | (exfalso;omega)
  | skip
 refine F4 (ι:=Nat × List (Int × Int)) (fun s=>⟨[(0,D3 a),(1,B9 b),(9, .ref 0 0),(10, .row 1 0 s.2.length),(44, .i a.length),(45, .i s.1)],2,[(0,some (.box (G1 D))),(1,some (.row 31 2 0 (s.2.map BH)))]⟩) (fun s=>s.1 ≤ a.length ∧ Y3 (fun k=>K5 (F1 (p k)) D) s.1 = some s.2) (fun s=>a.length - s.1) (0,[]) ⟨Nat.zero_le _,rfl⟩
  (E7 (W0 (d:=10) (e:=31) (sz:=2) rfl) (B4 h0 rfl ⟨rfl,rfl,rfl,rfl,rfl,rfl,trivial⟩ ⟨rfl,⟨0,rfl⟩,trivial⟩ rfl rfl rfl)) (fun s hI=>?_)
 obtain ⟨k,out⟩:=s
 obtain ⟨hk,hI⟩:=hI
 dsimp only at hk hI ⊢
 have hol:=r9 hI
 by_cases hkl:k < a.length
 ·have q1:=hpc k hkl
  have q2:=hdd k (hz k hkl)
  have q3:=hbd k (hz k hkl)
  have q4:=r8 (F1 (p k)) D q3 b1 h0d
  cases hr:K5 (F1 (p k)) D with
  | none =>
    rw [hr] at q4
    rw [Kw (f:=fun k=>K5 (F1 (p k)) D) hr hkl]
    generalize F1 (p k) = dk at *
    repeat' ((first | refine A8 q1 ?_ | refine A8 q2 ?_ | refine A8 q4 ?_ | (refine J3 (id:=20) ⟨[(12, .ref 2 0),(13, .i 14)],3,[(0,some (.box (G1 D))),(2,some (.box [.i 0, .i 0]))]⟩ ?_ ?_) |refine A5 ?_|refine S1 ?_|refine Z1 ?_|refine Z2 ?_|(refine And.intro ?_ ?_<;>intro h<;>try first|(exfalso;omega)|exact absurd rfl h)|refine Z3 ?_|refine Z4 ?_|intro el hel hbB|intro el hel|intro ex|refine Z5 ?_|(refine B2 ?_ ?_;exact ⟨by kernel_rfl,by decide⟩)|refine B0 ?_ ?_|exact A9|refine A7 ?_ ?_|exact A6|(refine A3 ?_ ?_ ?_;kernel_rfl;kernel_rfl)) <;> (try (conv=>whnf)))
    all_goals first
     | (exfalso;omega)
     | exact B4 h0 rfl ⟨rfl,rfl,trivial⟩ ⟨rfl,rfl,trivial⟩ rfl rfl rfl
     | exact AF (rs:=[.tmp 4, .tmp 5]) (vs:=[.sl 2 [], .i _]) rfl ⟨O4 rfl (.nil 2),O4 rfl (.refl _),trivial⟩ rfl
  | some x =>
    rw [hr] at q4
    have hI2:Y3 (fun k=>K5 (F1 (p k)) D) (k + 1) = some (out ++ [x]):=by rw [Y3,hI,hr]
    generalize F1 (p k) = dk at *
    obtain ⟨n,d⟩:=x
    repeat' ((first | refine A8 q1 ?_ | refine A8 q2 ?_ | refine A8 q4 ?_ | (refine J3 (id:=20) ⟨[(0,D3 a),(1,B9 b),(9, .ref 0 0),(10, .row 1 0 out.length),(12, .ref 2 0),(13, .i 0),(44, .i a.length),(45, .i k)],3,[(0,some (.box (G1 D))),(1,some (.row 31 2 0 (out.map BH))),(2,some (.box [.i n, .i d]))]⟩ ?_ ?_) |refine A5 ?_|refine S1 ?_|refine Z1 ?_|refine Z2 ?_|(refine And.intro ?_ ?_<;>intro h<;>try first|(exfalso;omega)|exact absurd rfl h)|refine Z3 ?_|refine Z4 ?_|intro el hel hbB|intro el hel|intro ex|refine Z5 ?_|(refine B2 ?_ ?_;exact ⟨by kernel_rfl,by decide⟩)|refine B0 ?_ ?_|exact A9|refine A7 ?_ ?_|exact A6|(refine A3 ?_ ?_ ?_;kernel_rfl;kernel_rfl)) <;> (try (conv=>whnf)))
    all_goals first
     | (exfalso;omega)
     | exact B4 h0 rfl ⟨rfl,rfl,rfl,rfl,rfl,rfl,rfl,rfl,trivial⟩ ⟨rfl,⟨_,rfl⟩,rfl,trivial⟩ rfl rfl rfl
     | exact ⟨(k + 1,out ++ [(n,d)]),⟨by dsimp only;omega,hI2⟩,by dsimp only;omega,B4 h0 rfl ⟨rfl,rfl,rfl,congrArg (fun z:Nat=>some (AV.row 1 0 z)) (by rw [List.length_append];rfl),rfl,rfl,trivial⟩ ⟨rfl,⟨_,congrArg (D9.row 31 2 _) (by rw [List.map_append];rfl)⟩,trivial⟩ rfl rfl rfl⟩
 ·have hkk:k = a.length:=by omega
  rw [hkk] at hI
  rw [hI]
  repeat' ((first|refine A5 ?_|refine S1 ?_|refine Z1 ?_|refine Z2 ?_|(refine And.intro ?_ ?_<;>intro h<;>try first|(exfalso;omega)|exact absurd rfl h)|refine Z3 ?_|refine Z4 ?_|intro el hel hbB|intro el hel|intro ex|refine Z5 ?_|(refine B2 ?_ ?_;exact ⟨by kernel_rfl,by decide⟩)|refine B0 ?_ ?_|exact A9|refine A7 ?_ ?_|exact A6|(refine A3 ?_ ?_ ?_;kernel_rfl;kernel_rfl)) <;> (try (conv=>whnf)))
  all_goals first
   | (exfalso;omega)
   | exact Ah rfl rfl rfl
end Go.Proofs.YtbhegmcbpolemaaDoor

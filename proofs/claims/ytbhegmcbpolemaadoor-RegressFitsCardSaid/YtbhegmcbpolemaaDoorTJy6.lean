/- The reference's ratio of determinants, and Cramer's rule. -/
import Derived.Test.YtbhegmcbpolemaaDoorTJy4
import Derived.Test.YtbhegmcbpolemaaDoorTJy5
import Derived.Test.YtbhegmcbpolemaaDoorTJw2
set_option linter.unusedVariables false
set_option linter.unnecessarySimpa false
set_option linter.unusedSimpArgs false
namespace Go.Proofs.YtbhegmcbpolemaaDoor
open Go Go.Av
attribute [local irreducible] E4 B6 F1 E7 DQ F6 F9 St.le B5 D4
set_option maxRecDepth 100000
set_option maxHeartbeats 16000000 in
theorem Lb (a:List (List Int)) (b:List Int) (c:Nat) (hr:∀ r ∈ a,r.length = a.length) (hb:b.length = a.length) (hc:c < a.length) (hn:a.length ≤ 1000):B5 Tryd.prog 51 [B7 a,B8 b, .i c] (B7 (I5 a b c)):=by
 have hpl:=BH a b c
 have hpr:∀ (i:Nat) (r:List Int) (bi:Int),a[i]? = some r → b[i]? = some bi → (I5 a b c)[i]? = some (r.set c bi):=fun i r bi h1 h2=>by
  unfold I5
  rw [List.getElem?_map,List.getElem?_range (List.getElem?_eq_some_iff.1 h1).1,Option.map_some,List.getD_eq_getElem?_getD,h1,List.getD_eq_getElem?_getD,h2];rfl
 generalize I5 a b c = p at *
 refine D1 Tryd.func51 33 fun hrd E h0=>?_
 clear hrd
 repeat' ((first|refine A5 ?_|refine S1 ?_|refine Z1 ?_|refine Z2 ?_|(refine And.intro ?_ ?_<;>intro h<;>try first|(exfalso;omega)|exact absurd rfl h)|refine Z3 ?_|refine Z4 ?_|intro el hel hbB|intro el hel|intro ex|refine Z5 ?_|(refine B0 ?_ ?_;exact ⟨by kernel_rfl,by decide⟩)|refine A9 ?_ ?_|exact A8|refine A7 ?_ ?_|exact A6|(refine A3 ?_ ?_ ?_;kernel_rfl;kernel_rfl)) <;> (try (conv=>whnf)))
 refine D7 (ι:=Nat) (fun k=>⟨[(0,B7 a),(1,B8 b),(2, .i c),(7, .row 0 0 k),(8, .i k)],1,[(0,some (.row 27 1 0 ((p.take k).map fun r=>[B8 r])))]⟩) (fun k=>k ≤ a.length) (fun k=>a.length - k) 0 (Nat.zero_le _)
  (E0 (N0 (d:=7) (e:=27) (sz:=1) rfl) (B4 h0 rfl ⟨rfl,rfl,rfl,rfl,rfl,trivial⟩ ⟨⟨_,rfl⟩,trivial⟩ rfl rfl rfl)) (fun k hk=>?_)
 by_cases hkn:k < a.length
 ·obtain ⟨r,hr1⟩:∃ x,a[k]? = some x:=⟨_,List.getElem?_eq_getElem hkn⟩
  obtain ⟨y,hy⟩:∃ x,b[k]? = some x:=⟨_,List.getElem?_eq_getElem (by omega)⟩
  have hr2:a[((k:Nat):Int).toNat]? = some r:=hr1
  have hy2:b[((k:Nat):Int).toNat]? = some y:=hy
  have hrl:=hr r (List.mem_of_getElem? hr1)
  obtain ⟨z,hz⟩:∃ x,r[c]? = some x:=⟨_,List.getElem?_eq_getElem (by omega)⟩
  have hcz:([] ++ r.map fun x=>[AV.i x])[((((c:Nat):Int).toNat:Nat):Int).toNat]? = some [.i z]:=by rw [Int.toNat_natCast,Int.toNat_natCast,List.nil_append,List.getElem?_map,hz];rfl
  have hrm:([] ++ r.map fun x=>[AV.i x]).length = a.length:=by rw [List.nil_append,List.length_map];exact hrl
  have hpk:=hpr k r y hr1 hy
  have hX:((p.take (k + 1)).map fun r=>[B8 r]) = ((p.take k).map fun r=>[B8 r]) ++ [[.sl 1 (([] ++ r.map fun x=>[AV.i x]).set c [.i y])]]:=by
   rw [List.take_add_one,hpk,Option.toList_some,List.map_append,List.nil_append,List.map_cons,List.map_nil, ← List.map_set]
  repeat' ((first | (refine B3 (x:=r) hr2 (by omega) ?_) | (refine B3 (x:=y) hy2 (by omega) ?_) | (refine H9 (x:=[.i z]) hcz (by omega) ?_) | refine X0 (T:=25) rfl ?_ |refine A5 ?_|refine S1 ?_|refine Z1 ?_|refine Z2 ?_|(refine And.intro ?_ ?_<;>intro h<;>try first|(exfalso;omega)|exact absurd rfl h)|refine Z3 ?_|refine Z4 ?_|intro el hel hbB|intro el hel|intro ex|refine Z5 ?_|(refine B0 ?_ ?_;exact ⟨by kernel_rfl,by decide⟩)|refine A9 ?_ ?_|exact A8|refine A7 ?_ ?_|exact A6|(refine A3 ?_ ?_ ?_;kernel_rfl;kernel_rfl)) <;> (try (conv=>whnf)))
  all_goals first
   | (exfalso;omega)
   | exact ⟨k + 1,by omega,by omega,B4 h0 rfl ⟨rfl,rfl,rfl,rfl,rfl,trivial⟩ ⟨⟨_,congrArg (D9.row 27 1 _) hX⟩,trivial⟩ rfl rfl rfl⟩
 ·have hkk:a.length = k:=by omega
  subst hkk
  have he:((p.take a.length).map fun r=>[B8 r]) = p.map fun r=>[B8 r]:=by rw [← hpl,List.take_length]
  repeat' ((first|refine A5 ?_|refine S1 ?_|refine Z1 ?_|refine Z2 ?_|(refine And.intro ?_ ?_<;>intro h<;>try first|(exfalso;omega)|exact absurd rfl h)|refine Z3 ?_|refine Z4 ?_|intro el hel hbB|intro el hel|intro ex|refine Z5 ?_|(refine B0 ?_ ?_;exact ⟨by kernel_rfl,by decide⟩)|refine A9 ?_ ?_|exact A8|refine A7 ?_ ?_|exact A6|(refine A3 ?_ ?_ ?_;kernel_rfl;kernel_rfl)) <;> (try (conv=>whnf)))
  all_goals first
   | (exfalso;omega)
   | exact B9 rfl (congrArg (AV.sl 1) he)
   | exact B9 rfl (congrArg (AV.sl 1) he.symm)
set_option maxHeartbeats 16000000 in
theorem IF (a b:List (List Int)):B5 Tryd.prog 31 [B7 a,B7 b] (QB (BF a b)):=by
 have c1:=y7 a
 have c2:=y7 b
 unfold BF
 by_cases ha:F0 a = 0
 rotate_left
 ·rw [if_pos ha]
  generalize F0 a = e at *
  refine D1 Tryd.func31 31 fun hrd E h0=>?_
  clear hrd
  repeat' ((first | refine A4 c1 ?_ |refine A5 ?_|refine S1 ?_|refine Z1 ?_|refine Z2 ?_|(refine And.intro ?_ ?_<;>intro h<;>try first|(exfalso;omega)|exact absurd rfl h)|refine Z3 ?_|refine Z4 ?_|intro el hel hbB|intro el hel|intro ex|refine Z5 ?_|(refine B0 ?_ ?_;exact ⟨by kernel_rfl,by decide⟩)|refine A9 ?_ ?_|exact A8|refine A7 ?_ ?_|exact A6|(refine A3 ?_ ?_ ?_;kernel_rfl;kernel_rfl)) <;> (try (conv=>whnf)))
  all_goals first
   | (exfalso;omega)
   | exact E6 rfl rfl rfl (.refl _) rfl (.refl _) rfl
 rw [if_neg (by simp [ha])]
 rw [ha] at c1
 by_cases hb:F0 b = 0
 rotate_left
 ·rw [if_pos hb]
  generalize F0 b = e at *
  refine D1 Tryd.func31 31 fun hrd E h0=>?_
  clear hrd
  repeat' ((first | refine A4 c1 ?_ | refine A4 c2 ?_ |refine A5 ?_|refine S1 ?_|refine Z1 ?_|refine Z2 ?_|(refine And.intro ?_ ?_<;>intro h<;>try first|(exfalso;omega)|exact absurd rfl h)|refine Z3 ?_|refine Z4 ?_|intro el hel hbB|intro el hel|intro ex|refine Z5 ?_|(refine B0 ?_ ?_;exact ⟨by kernel_rfl,by decide⟩)|refine A9 ?_ ?_|exact A8|refine A7 ?_ ?_|exact A6|(refine A3 ?_ ?_ ?_;kernel_rfl;kernel_rfl)) <;> (try (conv=>whnf)))
  all_goals first
   | (exfalso;omega)
   | exact E6 rfl rfl rfl (.refl _) rfl (.refl _) rfl
 rw [if_neg (by simp [hb])]
 rw [hb] at c2
 have d1:=y6 ha
 have d2:=y6 hb
 have b1:=l8 ha
 have b2:=l8 hb
 have s2:=BN (E9 b) (by omega)
 by_cases h0d:E9 b = 0
 ·rw [if_pos h0d]
  rw [h0d] at s2 d2
  rw [decide_eq_true (rfl:(0:Int) = 0)] at s2
  refine D1 Tryd.func31 31 fun hrd E h0=>?_
  clear hrd
  repeat' ((first | refine A4 c1 ?_ | refine A4 c2 ?_ | refine A4 d2 ?_ | refine A4 s2 ?_ |refine A5 ?_|refine S1 ?_|refine Z1 ?_|refine Z2 ?_|(refine And.intro ?_ ?_<;>intro h<;>try first|(exfalso;omega)|exact absurd rfl h)|refine Z3 ?_|refine Z4 ?_|intro el hel hbB|intro el hel|intro ex|refine Z5 ?_|(refine B0 ?_ ?_;exact ⟨by kernel_rfl,by decide⟩)|refine A9 ?_ ?_|exact A8|refine A7 ?_ ?_|exact A6|(refine A3 ?_ ?_ ?_;kernel_rfl;kernel_rfl)) <;> (try (conv=>whnf)))
  all_goals first
   | (exfalso;omega)
   | exact E6 rfl rfl rfl (.refl _) rfl (.refl _) rfl
 rw [if_neg h0d]
 rw [decide_eq_false h0d] at s2
 have r1:=u6 (E9 a) (E9 b) b1 b2 h0d
 cases hr:M4 (E9 a) (E9 b) with
 | none =>
   rw [hr] at r1
   refine D1 Tryd.func31 31 fun hrd E h0=>?_
   clear hrd
   repeat' ((first | refine A4 c1 ?_ | refine A4 c2 ?_ | refine A4 d1 ?_ | refine A4 d2 ?_ | refine A4 s2 ?_ | refine A4 r1 ?_ |refine A5 ?_|refine S1 ?_|refine Z1 ?_|refine Z2 ?_|(refine And.intro ?_ ?_<;>intro h<;>try first|(exfalso;omega)|exact absurd rfl h)|refine Z3 ?_|refine Z4 ?_|intro el hel hbB|intro el hel|intro ex|refine Z5 ?_|(refine B0 ?_ ?_;exact ⟨by kernel_rfl,by decide⟩)|refine A9 ?_ ?_|exact A8|refine A7 ?_ ?_|exact A6|(refine A3 ?_ ?_ ?_;kernel_rfl;kernel_rfl)) <;> (try (conv=>whnf)))
   all_goals first
    | (exfalso;omega)
    | exact E6 rfl rfl rfl (.refl _) rfl (.refl _) rfl
 | some p =>
   rw [hr] at r1
   obtain ⟨n,d⟩:=p
   refine D1 Tryd.func31 31 fun hrd E h0=>?_
   clear hrd
   repeat' ((first | refine A4 c1 ?_ | refine A4 c2 ?_ | refine A4 d1 ?_ | refine A4 d2 ?_ | refine A4 s2 ?_ | refine A4 r1 ?_ |refine A5 ?_|refine S1 ?_|refine Z1 ?_|refine Z2 ?_|(refine And.intro ?_ ?_<;>intro h<;>try first|(exfalso;omega)|exact absurd rfl h)|refine Z3 ?_|refine Z4 ?_|intro el hel hbB|intro el hel|intro ex|refine Z5 ?_|(refine B0 ?_ ?_;exact ⟨by kernel_rfl,by decide⟩)|refine A9 ?_ ?_|exact A8|refine A7 ?_ ?_|exact A6|(refine A3 ?_ ?_ ?_;kernel_rfl;kernel_rfl)) <;> (try (conv=>whnf)))
   all_goals first
    | (exfalso;omega)
    | exact E6 rfl rfl rfl (.refl _) rfl (.refl _) rfl
set_option maxHeartbeats 16000000 in
theorem IG (a:List (List Int)) (b:List Int):B5 Tryd.prog 30 [B7 a,B8 b] (QC (m6 a b)):=by
 have c1:=y7 a
 unfold m6
 by_cases ha:F0 a = 0
 rotate_left
 ·rw [if_pos ha]
  generalize F0 a = e at *
  refine D1 Tryd.func30 66 fun hrd E h0=>?_
  clear hrd
  repeat' ((first | refine A4 c1 ?_ |refine A5 ?_|refine S1 ?_|refine Z1 ?_|refine Z2 ?_|(refine And.intro ?_ ?_<;>intro h<;>try first|(exfalso;omega)|exact absurd rfl h)|refine Z3 ?_|refine Z4 ?_|intro el hel hbB|intro el hel|intro ex|refine Z5 ?_|(refine B0 ?_ ?_;exact ⟨by kernel_rfl,by decide⟩)|refine A9 ?_ ?_|exact A8|refine A7 ?_ ?_|exact A6|(refine A3 ?_ ?_ ?_;kernel_rfl;kernel_rfl)) <;> (try (conv=>whnf)))
  all_goals first
   | (exfalso;omega)
   | exact S0 (rs:=[.tmp 4, .tmp 5]) (vs:=[.sl 2 [], .i _]) rfl ⟨H6 rfl (.nil 2),H6 rfl (.refl _),trivial⟩ rfl
 rw [if_neg (by simp [ha])]
 rw [ha] at c1
 obtain ⟨a1,a2,a3,a4,a5⟩:=AZ ha
 by_cases hbl:b.length = a.length
 rotate_left
 ·rw [if_pos hbl]
  refine D1 Tryd.func30 66 fun hrd E h0=>?_
  clear hrd
  repeat' ((first | refine A4 c1 ?_ |refine A5 ?_|refine S1 ?_|refine Z1 ?_|refine Z2 ?_|(refine And.intro ?_ ?_<;>intro h<;>try first|(exfalso;omega)|exact absurd rfl h)|refine Z3 ?_|refine Z4 ?_|intro el hel hbB|intro el hel|intro ex|refine Z5 ?_|(refine B0 ?_ ?_;exact ⟨by kernel_rfl,by decide⟩)|refine A9 ?_ ?_|exact A8|refine A7 ?_ ?_|exact A6|(refine A3 ?_ ?_ ?_;kernel_rfl;kernel_rfl)) <;> (try (conv=>whnf)))
  all_goals first
   | (exfalso;omega)
   | exact S0 (rs:=[.tmp 4, .tmp 5]) (vs:=[.sl 2 [], .i _]) rfl ⟨H6 rfl (.nil 2),H6 rfl (.refl _),trivial⟩ rfl
 rw [if_neg (by simp [hbl])]
 have hpl:∀ k,(I5 a b k).length = a.length:=fun k=>BH a b k
 have hpc:∀ k,k < a.length → B5 Tryd.prog 51 [B7 a,B8 b, .i k] (B7 (I5 a b k)):=fun k hk=>Lb a b k a3 hbl hk (by omega)
 have hcc:∀ k,B5 Tryd.prog 50 [B7 (I5 a b k)] (.i (F0 (I5 a b k))):=fun k=>y7 _
 have hdd:∀ k,F0 (I5 a b k) = 0 → B5 Tryd.prog 52 [B7 (I5 a b k)] (D6 (E9 (I5 a b k))):=fun k h=>y6 h
 have hbd:∀ k,F0 (I5 a b k) = 0 → -170141183460469231731687303715884105728 < E9 (I5 a b k) ∧ E9 (I5 a b k) < 170141183460469231731687303715884105728:=fun k h=>l8 h
 have d1:=y6 ha
 have b1:=l8 ha
 have s1:=BN (E9 a) (by omega)
 generalize hp:(fun k=>I5 a b k) = p at *
 have hp2:∀ k,I5 a b k = p k:=fun k=>by rw [← hp]
 simp only [hp2] at *
 clear hp hp2
 generalize E9 a = D at *
 refine D1 Tryd.func30 66 fun hrd E h0=>?_
 clear hrd
 repeat' ((first | refine A4 c1 ?_ |refine A5 ?_|refine S1 ?_|refine Z1 ?_|refine Z2 ?_|(refine And.intro ?_ ?_<;>intro h<;>try first|(exfalso;omega)|exact absurd rfl h)|refine Z3 ?_|refine Z4 ?_|intro el hel hbB|intro el hel|intro ex|refine Z5 ?_|(refine B0 ?_ ?_;exact ⟨by kernel_rfl,by decide⟩)|refine A9 ?_ ?_|exact A8|refine A7 ?_ ?_|exact A6|(refine A3 ?_ ?_ ?_;kernel_rfl;kernel_rfl)) <;> (try (conv=>whnf)))
 all_goals first
  | (exfalso;omega)
  | skip
 refine D7 (ι:=Nat) (fun k=>⟨[(0,B7 a),(1,B8 b),(7, .i k)],0,[]⟩) (fun k=>k ≤ a.length ∧ V3 (fun k=>F0 (p k)) k = 0) (fun k=>a.length - k) 0 ⟨Nat.zero_le _,rfl⟩
  (B4 h0 rfl ⟨rfl,rfl,rfl,trivial⟩ trivial rfl rfl rfl) (fun k hI=>?_)
 obtain ⟨hk,hI⟩:=hI
 by_cases hkl:k < a.length
 ·have q1:=hpc k hkl
  have q2:=hcc k
  by_cases hz:F0 (p k) = 0
  ·rw [hz] at q2
   have hI2:V3 (fun k=>F0 (p k)) (k + 1) = 0:=by rw [V3,if_neg (by simp [hI])];exact hz
   repeat' ((first | refine A4 q1 ?_ | refine A4 q2 ?_ |refine A5 ?_|refine S1 ?_|refine Z1 ?_|refine Z2 ?_|(refine And.intro ?_ ?_<;>intro h<;>try first|(exfalso;omega)|exact absurd rfl h)|refine Z3 ?_|refine Z4 ?_|intro el hel hbB|intro el hel|intro ex|refine Z5 ?_|(refine B0 ?_ ?_;exact ⟨by kernel_rfl,by decide⟩)|refine A9 ?_ ?_|exact A8|refine A7 ?_ ?_|exact A6|(refine A3 ?_ ?_ ?_;kernel_rfl;kernel_rfl)) <;> (try (conv=>whnf)))
   all_goals first
    | (exfalso;omega)
    | exact ⟨k + 1,⟨by omega,hI2⟩,by omega,B4 h0 rfl ⟨rfl,rfl,rfl,trivial⟩ trivial rfl rfl rfl⟩
  ·rw [if_pos (by rw [CX hI hz hkl];exact hz),CX (f:=fun k=>F0 (p k)) hI hz hkl]
   generalize F0 (p k) = e at *
   repeat' ((first | refine A4 q1 ?_ | refine A4 q2 ?_ |refine A5 ?_|refine S1 ?_|refine Z1 ?_|refine Z2 ?_|(refine And.intro ?_ ?_<;>intro h<;>try first|(exfalso;omega)|exact absurd rfl h)|refine Z3 ?_|refine Z4 ?_|intro el hel hbB|intro el hel|intro ex|refine Z5 ?_|(refine B0 ?_ ?_;exact ⟨by kernel_rfl,by decide⟩)|refine A9 ?_ ?_|exact A8|refine A7 ?_ ?_|exact A6|(refine A3 ?_ ?_ ?_;kernel_rfl;kernel_rfl)) <;> (try (conv=>whnf)))
   all_goals first
    | (exfalso;omega)
    | exact S0 (rs:=[.tmp 4, .tmp 5]) (vs:=[.sl 2 [], .i _]) rfl ⟨H6 rfl (.nil 2),H6 rfl (.refl _),trivial⟩ rfl
 have hkk:k = a.length:=by omega
 subst hkk
 have hz:=Fl hI
 rw [if_neg (by simp [hI])]
 clear hI
 by_cases h0d:D = 0
 ·subst h0d
  rw [if_pos rfl]
  rw [decide_eq_true (rfl:(0:Int) = 0)] at s1
  repeat' ((first | refine A4 d1 ?_ | refine A4 s1 ?_ |refine A5 ?_|refine S1 ?_|refine Z1 ?_|refine Z2 ?_|(refine And.intro ?_ ?_<;>intro h<;>try first|(exfalso;omega)|exact absurd rfl h)|refine Z3 ?_|refine Z4 ?_|intro el hel hbB|intro el hel|intro ex|refine Z5 ?_|(refine B0 ?_ ?_;exact ⟨by kernel_rfl,by decide⟩)|refine A9 ?_ ?_|exact A8|refine A7 ?_ ?_|exact A6|(refine A3 ?_ ?_ ?_;kernel_rfl;kernel_rfl)) <;> (try (conv=>whnf)))
  all_goals first
   | (exfalso;omega)
   | exact S0 (rs:=[.tmp 4, .tmp 5]) (vs:=[.sl 2 [], .i _]) rfl ⟨H6 rfl (.nil 2),H6 rfl (.refl _),trivial⟩ rfl
 rw [if_neg h0d]
 rw [decide_eq_false h0d] at s1
 repeat' ((first | refine A4 d1 ?_ | refine A4 s1 ?_ |refine A5 ?_|refine S1 ?_|refine Z1 ?_|refine Z2 ?_|(refine And.intro ?_ ?_<;>intro h<;>try first|(exfalso;omega)|exact absurd rfl h)|refine Z3 ?_|refine Z4 ?_|intro el hel hbB|intro el hel|intro ex|refine Z5 ?_|(refine B0 ?_ ?_;exact ⟨by kernel_rfl,by decide⟩)|refine A9 ?_ ?_|exact A8|refine A7 ?_ ?_|exact A6|(refine A3 ?_ ?_ ?_;kernel_rfl;kernel_rfl)) <;> (try (conv=>whnf)))
 all_goals first
  | (exfalso;omega)
  | skip
 refine D7 (ι:=Nat × List (Int × Int)) (fun s=>⟨[(0,B7 a),(1,B8 b),(9, .ref 0 0),(10, .row 1 0 s.2.length),(11, .i s.1)],2,[(0,some (.box (D3 D))),(1,some (.row 31 2 0 (s.2.map Aa)))]⟩) (fun s=>s.1 ≤ a.length ∧ m5 (fun k=>M4 (E9 (p k)) D) s.1 = some s.2) (fun s=>a.length - s.1) (0,[]) ⟨Nat.zero_le _,rfl⟩
  (E0 (N0 (d:=10) (e:=31) (sz:=2) rfl) (B4 h0 rfl ⟨rfl,rfl,rfl,rfl,rfl,trivial⟩ ⟨rfl,⟨0,rfl⟩,trivial⟩ rfl rfl rfl)) (fun s hI=>?_)
 obtain ⟨k,out⟩:=s
 obtain ⟨hk,hI⟩:=hI
 dsimp only at hk hI ⊢
 have hol:=BE hI
 by_cases hkl:k < a.length
 ·have q1:=hpc k hkl
  have q2:=hdd k (hz k hkl)
  have q3:=hbd k (hz k hkl)
  have q4:=u6 (E9 (p k)) D q3 b1 h0d
  cases hr:M4 (E9 (p k)) D with
  | none =>
    rw [hr] at q4
    rw [Fk (f:=fun k=>M4 (E9 (p k)) D) hr hkl]
    generalize E9 (p k) = dk at *
    repeat' ((first | refine A4 q1 ?_ | refine A4 q2 ?_ | refine A4 q4 ?_ | (refine F5 (id:=19) ⟨[(12, .ref 2 0),(13, .i 14)],3,[(0,some (.box (D3 D))),(2,some (.box [.i 0, .i 0]))]⟩ ?_ ?_) |refine A5 ?_|refine S1 ?_|refine Z1 ?_|refine Z2 ?_|(refine And.intro ?_ ?_<;>intro h<;>try first|(exfalso;omega)|exact absurd rfl h)|refine Z3 ?_|refine Z4 ?_|intro el hel hbB|intro el hel|intro ex|refine Z5 ?_|(refine B0 ?_ ?_;exact ⟨by kernel_rfl,by decide⟩)|refine A9 ?_ ?_|exact A8|refine A7 ?_ ?_|exact A6|(refine A3 ?_ ?_ ?_;kernel_rfl;kernel_rfl)) <;> (try (conv=>whnf)))
    all_goals first
     | (exfalso;omega)
     | exact B4 h0 rfl ⟨rfl,rfl,trivial⟩ ⟨rfl,rfl,trivial⟩ rfl rfl rfl
     | exact S0 (rs:=[.tmp 4, .tmp 5]) (vs:=[.sl 2 [], .i _]) rfl ⟨H6 rfl (.nil 2),H6 rfl (.refl _),trivial⟩ rfl
  | some x =>
    rw [hr] at q4
    have hI2:m5 (fun k=>M4 (E9 (p k)) D) (k + 1) = some (out ++ [x]):=by rw [m5,hI,hr]
    generalize E9 (p k) = dk at *
    obtain ⟨n,d⟩:=x
    repeat' ((first | refine A4 q1 ?_ | refine A4 q2 ?_ | refine A4 q4 ?_ | (refine F5 (id:=19) ⟨[(0,B7 a),(1,B8 b),(9, .ref 0 0),(10, .row 1 0 out.length),(11, .i k),(12, .ref 2 0),(13, .i 0)],3,[(0,some (.box (D3 D))),(1,some (.row 31 2 0 (out.map Aa))),(2,some (.box [.i n, .i d]))]⟩ ?_ ?_) |refine A5 ?_|refine S1 ?_|refine Z1 ?_|refine Z2 ?_|(refine And.intro ?_ ?_<;>intro h<;>try first|(exfalso;omega)|exact absurd rfl h)|refine Z3 ?_|refine Z4 ?_|intro el hel hbB|intro el hel|intro ex|refine Z5 ?_|(refine B0 ?_ ?_;exact ⟨by kernel_rfl,by decide⟩)|refine A9 ?_ ?_|exact A8|refine A7 ?_ ?_|exact A6|(refine A3 ?_ ?_ ?_;kernel_rfl;kernel_rfl)) <;> (try (conv=>whnf)))
    all_goals first
     | (exfalso;omega)
     | exact B4 h0 rfl ⟨rfl,rfl,rfl,rfl,rfl,rfl,rfl,trivial⟩ ⟨rfl,⟨_,rfl⟩,rfl,trivial⟩ rfl rfl rfl
     | exact ⟨(k + 1,out ++ [(n,d)]),⟨by dsimp only;omega,hI2⟩,by dsimp only;omega,B4 h0 rfl ⟨rfl,rfl,rfl,congrArg (fun z:Nat=>some (AV.row 1 0 z)) (by rw [List.length_append];rfl),rfl,trivial⟩ ⟨rfl,⟨_,congrArg (D9.row 31 2 _) (by rw [List.map_append];rfl)⟩,trivial⟩ rfl rfl rfl⟩
 ·have hkk:k = a.length:=by omega
  rw [hkk] at hI
  rw [hI]
  repeat' ((first|refine A5 ?_|refine S1 ?_|refine Z1 ?_|refine Z2 ?_|(refine And.intro ?_ ?_<;>intro h<;>try first|(exfalso;omega)|exact absurd rfl h)|refine Z3 ?_|refine Z4 ?_|intro el hel hbB|intro el hel|intro ex|refine Z5 ?_|(refine B0 ?_ ?_;exact ⟨by kernel_rfl,by decide⟩)|refine A9 ?_ ?_|exact A8|refine A7 ?_ ?_|exact A6|(refine A3 ?_ ?_ ?_;kernel_rfl;kernel_rfl)) <;> (try (conv=>whnf)))
  all_goals first
   | (exfalso;omega)
   | exact s8 rfl rfl rfl
end Go.Proofs.YtbhegmcbpolemaaDoor

/- What sums of products are asked of; Gram; the sum of squares about the mean: by the program. -/
import Derived.Test.YtbhegmcbpolemaaDoorSJm2
set_option linter.unusedVariables false
set_option linter.unnecessarySimpa false
set_option linter.unusedSimpArgs false
namespace Go.Proofs.YtbhegmcbpolemaaDoor
open Go Go.Av
attribute [local irreducible] E3 B5 F2 F0 DQ F5 G8 St.le B6 D3
set_option maxRecDepth 100000
set_option maxHeartbeats 2000000 in
theorem Pk (l:List (Int)) (f:Nat) (caps:List AV) (p:(Int) → Bool) (hf:∀ x ∈ l,B6 Tryd.prog f ((fun x=>.i x) x :: caps) (.b (p x))):B6 Tryd.prog 63 [.sl 1 (l.map E5), .fn f caps] (.i (Bb p l 0)):=by
 refine E1 Tryd.func63 19 fun hrd E h0=>?_
 have hlen:l.length ≤ 9223372036854775807:=by have:=(hrd (.sl 1 (l.map E5)) (by simp)).sl;simpa using this
 repeat' ((first|refine A6 ?_|refine S1 ?_|refine Z1 ?_|refine Z2 ?_|(refine And.intro ?_ ?_<;>intro h<;>try first|(exfalso;omega)|exact absurd rfl h)|refine Z3 ?_|refine Z4 ?_|intro el hel hbB|intro el hel|intro ex|refine Z5 ?_|(refine B2 ?_ ?_;exact ⟨by kernel_rfl,by decide⟩)|refine B0 ?_ ?_|exact A9|refine A8 ?_ ?_|exact A7|(refine A3 ?_ ?_ ?_;kernel_rfl;kernel_rfl)) <;> (try (conv=>whnf)))
 refine F4 (ι:=Nat) (fun k=>⟨[(0, .sl 1 (l.map E5)),(1, .fn f caps),(7, .i l.length),(8, .i k)],0,[]⟩) (fun k=>k ≤ l.length ∧ Bb p l 0 = Bb p (l.drop k) k) (fun k=>l.length - k) 0 ⟨Nat.zero_le _,rfl⟩ (B3 h0 rfl ⟨rfl,rfl,rfl,rfl,trivial⟩ trivial rfl rfl rfl) (fun k hI=>?_)
 obtain ⟨hk,hI⟩:=hI
 repeat' ((first | refine A4 (hf _ (List.mem_of_getElem? hel)) ?_ |refine A6 ?_|refine S1 ?_|refine Z1 ?_|refine Z2 ?_|(refine And.intro ?_ ?_<;>intro h<;>try first|(exfalso;omega)|exact absurd rfl h)|refine Z3 ?_|refine Z4 ?_|intro el hel hbB|intro el hel|intro ex|refine Z5 ?_|(refine B2 ?_ ?_;exact ⟨by kernel_rfl,by decide⟩)|refine B0 ?_ ?_|exact A9|refine A8 ?_ ?_|exact A7|(refine A3 ?_ ?_ ?_;kernel_rfl;kernel_rfl)) <;> (try (conv=>whnf)))
 all_goals first
  | exact ⟨k + 1,⟨by omega,by rw [hI,Oc hel,Bb,if_neg (by simp [h])];rfl⟩,by omega,B3 h0 rfl ⟨rfl,rfl,rfl,rfl,trivial⟩ trivial rfl rfl rfl⟩
  | exact C1 rfl (congrArg AV.i (by rw [hI,Oc hel,Bb,if_pos (by simp [h])]))
  | exact C1 rfl (congrArg AV.i (by rw [hI,show k = l.length by omega,List.drop_length];rfl))
set_option maxHeartbeats 2000000 in
theorem Pl (l:List (Int)) (f:Nat) (caps:List AV) (p:(Int) → Bool) (hf:∀ x ∈ l,B6 Tryd.prog f ((fun x=>.i x) x :: caps) (.b (p x))):B6 Tryd.prog 44 [.sl 1 (l.map E5), .fn f caps] (.b (l.any p)):=by
 refine E1 Tryd.func44 9 fun hrd E h0=>?_
 have hidx:=Pk l f caps p hf
 repeat' ((first | refine A4 hidx ?_ |refine A6 ?_|refine S1 ?_|refine Z1 ?_|refine Z2 ?_|(refine And.intro ?_ ?_<;>intro h<;>try first|(exfalso;omega)|exact absurd rfl h)|refine Z3 ?_|refine Z4 ?_|intro el hel hbB|intro el hel|intro ex|refine Z5 ?_|(refine B2 ?_ ?_;exact ⟨by kernel_rfl,by decide⟩)|refine B0 ?_ ?_|exact A9|refine A8 ?_ ?_|exact A7|(refine A3 ?_ ?_ ?_;kernel_rfl;kernel_rfl)) <;> (try (conv=>whnf)))
 all_goals first
  | exact C1 rfl (congrArg AV.b (Ho p l 0 (by omega)))
def Ac (x:Int):Bool:=decide (x < -1000000 ∨ 1000000 < x)
set_option maxHeartbeats 4000000 in
theorem Lq (x:Int):B6 Tryd.prog 45 [.i x] (.b (Ac x)):=by
 unfold Ac
 by_cases h:x < -1000000 ∨ 1000000 < x
 ·rw [decide_eq_true h]
  refine E1 Tryd.func45 9 fun hrd E h0=>?_
  clear hrd
  repeat' ((first|refine A6 ?_|refine S1 ?_|refine Z1 ?_|refine Z2 ?_|(refine And.intro ?_ ?_<;>intro h<;>try first|(exfalso;omega)|exact absurd rfl h)|refine Z3 ?_|refine Z4 ?_|intro el hel hbB|intro el hel|intro ex|refine Z5 ?_|(refine B2 ?_ ?_;exact ⟨by kernel_rfl,by decide⟩)|refine B0 ?_ ?_|exact A9|refine A8 ?_ ?_|exact A7|(refine A3 ?_ ?_ ?_;kernel_rfl;kernel_rfl)) <;> (try (conv=>whnf)))
  all_goals first
   | (exfalso;omega)
   | exact C1 rfl rfl
   | exact C1 rfl (congrArg AV.b (decide_eq_true (by omega)))
 ·rw [decide_eq_false h]
  refine E1 Tryd.func45 9 fun hrd E h0=>?_
  clear hrd
  repeat' ((first|refine A6 ?_|refine S1 ?_|refine Z1 ?_|refine Z2 ?_|(refine And.intro ?_ ?_<;>intro h<;>try first|(exfalso;omega)|exact absurd rfl h)|refine Z3 ?_|refine Z4 ?_|intro el hel hbB|intro el hel|intro ex|refine Z5 ?_|(refine B2 ?_ ?_;exact ⟨by kernel_rfl,by decide⟩)|refine B0 ?_ ?_|exact A9|refine A8 ?_ ?_|exact A7|(refine A3 ?_ ?_ ?_;kernel_rfl;kernel_rfl)) <;> (try (conv=>whnf)))
  all_goals first
   | (exfalso;omega)
   | exact C1 rfl rfl
   | exact C1 rfl (congrArg AV.b (decide_eq_false (by omega)))
theorem Lr {f g:Nat} {a r:AV} (h:B6 Tryd.prog f [a, .fn g []] r):B6 Tryd.prog f [a, .v (.func (.func g) #[] #[])] r:=by
 delta B6 at h ⊢
 refine ⟨h.1,fun X w vs hX htb hl hv=>h.2 X w vs hX htb hl fun j b v hj hvj=>?_⟩
 match j,hj with
 | 0,hj=>exact hv 0 b v hj hvj
 | 1,hj =>
   cases hj
   have:=hv 1 _ v rfl hvj
   cases this
   exact .fn g [] [] rfl fun j x c hx=>by simp at hx
theorem Cq {l:List (List Int)} (h:¬ ((1 ≤ l.length ∧ l.length ≤ 200 ∧ 1 ≤ C8 l ∧ C8 l ≤ 5) ∧ ∀ r ∈ l,r.length = C8 l ∧ ∀ x ∈ r, -1000000 ≤ x ∧ x ≤ 1000000)):X0 l = false:=by
 cases e:X0 l with
 | false=>rfl
 | true=>exact absurd ((X1 l).1 e) h
theorem Hq {r:List Int}:r.any Ac = false ↔ ∀ x ∈ r, -1000000 ≤ x ∧ x ≤ 1000000:=by
 constructor
 ·intro h x hx
  by_cases e:-1000000 ≤ x ∧ x ≤ 1000000
  ·exact e
  ·have:=List.any_eq_true.2 ⟨x,hx,(show Ac x = true by unfold Ac;exact decide_eq_true (by omega))⟩
   rw [h] at this;cases this
 ·intro h
  exact n5 fun x hx=>by unfold Ac;exact decide_eq_false (by have:=h x hx;omega)
set_option maxHeartbeats 16000000 in
theorem Bk (l:List (List Int)):B6 Tryd.prog 23 [C3 l] (.b (X0 l)):=by
 generalize hG:X0 l = G
 by_cases h1:l.length = 0
 ·rw [Cq (by omega)] at hG
  subst hG
  refine E1 Tryd.func23 45 fun hrd E h0=>?_
  clear hrd
  repeat' ((first|refine A6 ?_|refine S1 ?_|refine Z1 ?_|refine Z2 ?_|(refine And.intro ?_ ?_<;>intro h<;>try first|(exfalso;omega)|exact absurd rfl h)|refine Z3 ?_|refine Z4 ?_|intro el hel hbB|intro el hel|intro ex|refine Z5 ?_|(refine B2 ?_ ?_;exact ⟨by kernel_rfl,by decide⟩)|refine B0 ?_ ?_|exact A9|refine A8 ?_ ?_|exact A7|(refine A3 ?_ ?_ ?_;kernel_rfl;kernel_rfl)) <;> (try (conv=>whnf)))
  all_goals first
   | (exfalso;omega)
   | exact C1 rfl rfl
 obtain ⟨r0,hr0⟩:∃ r,l[0]? = some r:=⟨_,List.getElem?_eq_getElem (by omega)⟩
 have hr00:l[((0:Int)).toNat]? = some r0:=hr0
 have hw:=s9 hr0
 by_cases h2:l.length ≤ 200 ∧ 1 ≤ r0.length ∧ r0.length ≤ 5
 rotate_left
 ·rw [Cq (by omega)] at hG
  subst hG
  refine E1 Tryd.func23 45 fun hrd E h0=>?_
  have hlen:l.length ≤ 9223372036854775807:=by have:=(hrd (C3 l) (by simp)).sl;simpa using this
  have hlens:∀ r ∈ l,r.length ≤ 9223372036854775807:=fun r hr=>by
   have:=((hrd (C3 l) (by simp)).elem [C2 r] (List.mem_map.2 ⟨r,hr,rfl⟩) (C2 r) (by simp)).sl
   simpa using this
  have hl0:=hlens r0 (List.mem_of_getElem? hr0)
  clear hrd hlens
  repeat' ((first | (refine B4 (x:=r0) hr00 (by omega) ?_) |refine A6 ?_|refine S1 ?_|refine Z1 ?_|refine Z2 ?_|(refine And.intro ?_ ?_<;>intro h<;>try first|(exfalso;omega)|exact absurd rfl h)|refine Z3 ?_|refine Z4 ?_|intro el hel hbB|intro el hel|intro ex|refine Z5 ?_|(refine B2 ?_ ?_;exact ⟨by kernel_rfl,by decide⟩)|refine B0 ?_ ?_|exact A9|refine A8 ?_ ?_|exact A7|(refine A3 ?_ ?_ ?_;kernel_rfl;kernel_rfl)) <;> (try (conv=>whnf)))
  all_goals first
   | (exfalso;omega)
   | exact C1 rfl rfl
 have hidx:∀ r:List Int,B6 Tryd.prog 44 [C2 r, .v (.func (.func 45) #[] #[])] (.b (r.any Ac)):=fun r=>Lr <| Pl r 45 [] Ac fun x _=>Lq x
 refine E1 Tryd.func23 45 fun hrd E h0=>?_
 have hlens:∀ r ∈ l,r.length ≤ 9223372036854775807:=fun r hr=>by
  have:=((hrd (C3 l) (by simp)).elem [C2 r] (List.mem_map.2 ⟨r,hr,rfl⟩) (C2 r) (by simp)).sl
  simpa using this
 clear hrd
 repeat' ((first | (refine B4 (x:=r0) hr00 (by omega) ?_) |refine A6 ?_|refine S1 ?_|refine Z1 ?_|refine Z2 ?_|(refine And.intro ?_ ?_<;>intro h<;>try first|(exfalso;omega)|exact absurd rfl h)|refine Z3 ?_|refine Z4 ?_|intro el hel hbB|intro el hel|intro ex|refine Z5 ?_|(refine B2 ?_ ?_;exact ⟨by kernel_rfl,by decide⟩)|refine B0 ?_ ?_|exact A9|refine A8 ?_ ?_|exact A7|(refine A3 ?_ ?_ ?_;kernel_rfl;kernel_rfl)) <;> (try (conv=>whnf)))
 all_goals first
  | (exfalso;omega)
  | skip
 refine F4 (ι:=Nat) (fun k=>⟨[(0,C3 l),(27,C3 l),(28, .i l.length),(29, .i k)],0,[]⟩) (fun k=>k ≤ l.length ∧ ∀ (i:Nat) r,i < k → l[i]? = some r → r.length = r0.length ∧ r.any Ac = false) (fun k=>l.length - k) 0 ⟨Nat.zero_le _,fun i r h=>absurd h (Nat.not_lt_zero _)⟩
  (B3 h0 rfl ⟨rfl,rfl,rfl,rfl,trivial⟩ trivial rfl rfl rfl) (fun k hI=>?_)
 obtain ⟨hk,hI⟩:=hI
 by_cases hkl:k < l.length
 ·obtain ⟨r,hr⟩:∃ r,l[k]? = some r:=⟨_,List.getElem?_eq_getElem hkl⟩
  have hr2:l[((k:Nat):Int).toNat]? = some r:=hr
  have hrl:=hlens r (List.mem_of_getElem? hr)
  have hc:=hidx r
  by_cases hrn:r.length = r0.length
  ·by_cases hb:r.any Ac = false
   ·rw [hb] at hc
    repeat' ((first | (refine B4 (x:=r) hr2 (by omega) ?_) | (refine B4 (x:=r0) hr00 (by omega) ?_) | refine A4 hc ?_ |refine A6 ?_|refine S1 ?_|refine Z1 ?_|refine Z2 ?_|(refine And.intro ?_ ?_<;>intro h<;>try first|(exfalso;omega)|exact absurd rfl h)|refine Z3 ?_|refine Z4 ?_|intro el hel hbB|intro el hel|intro ex|refine Z5 ?_|(refine B2 ?_ ?_;exact ⟨by kernel_rfl,by decide⟩)|refine B0 ?_ ?_|exact A9|refine A8 ?_ ?_|exact A7|(refine A3 ?_ ?_ ?_;kernel_rfl;kernel_rfl)) <;> (try (conv=>whnf)))
    all_goals first
     | (exfalso;omega)
     | exact ⟨k + 1,⟨by omega,fun i r2 hi hq=>by
       by_cases e:i = k
       ·rw [e,hr] at hq;cases hq;exact ⟨hrn,hb⟩
       ·exact hI i r2 (by omega) hq⟩,by omega,B3 h0 rfl ⟨rfl,rfl,rfl,rfl,trivial⟩ trivial rfl rfl rfl⟩
   ·rw [Cq fun h=>hb (Hq.2 (h.2 r (List.mem_of_getElem? hr)).2)] at hG
    subst hG
    rw [Bool.not_eq_false] at hb
    rw [hb] at hc
    repeat' ((first | (refine B4 (x:=r) hr2 (by omega) ?_) | (refine B4 (x:=r0) hr00 (by omega) ?_) | refine A4 hc ?_ |refine A6 ?_|refine S1 ?_|refine Z1 ?_|refine Z2 ?_|(refine And.intro ?_ ?_<;>intro h<;>try first|(exfalso;omega)|exact absurd rfl h)|refine Z3 ?_|refine Z4 ?_|intro el hel hbB|intro el hel|intro ex|refine Z5 ?_|(refine B2 ?_ ?_;exact ⟨by kernel_rfl,by decide⟩)|refine B0 ?_ ?_|exact A9|refine A8 ?_ ?_|exact A7|(refine A3 ?_ ?_ ?_;kernel_rfl;kernel_rfl)) <;> (try (conv=>whnf)))
    all_goals first
     | (exfalso;omega)
     | exact C1 rfl rfl
  ·rw [Cq fun h=>hrn (by rw [(h.2 r (List.mem_of_getElem? hr)).1,hw])] at hG
   subst hG
   repeat' ((first | (refine B4 (x:=r) hr2 (by omega) ?_) | (refine B4 (x:=r0) hr00 (by omega) ?_) | refine A4 hc ?_ |refine A6 ?_|refine S1 ?_|refine Z1 ?_|refine Z2 ?_|(refine And.intro ?_ ?_<;>intro h<;>try first|(exfalso;omega)|exact absurd rfl h)|refine Z3 ?_|refine Z4 ?_|intro el hel hbB|intro el hel|intro ex|refine Z5 ?_|(refine B2 ?_ ?_;exact ⟨by kernel_rfl,by decide⟩)|refine B0 ?_ ?_|exact A9|refine A8 ?_ ?_|exact A7|(refine A3 ?_ ?_ ?_;kernel_rfl;kernel_rfl)) <;> (try (conv=>whnf)))
   all_goals first
    | (exfalso;omega)
    | exact C1 rfl rfl
 have hkk:k = l.length:=by omega
 subst hkk
 have hGt:G = true:=by
  rw [← hG]
  refine (X1 l).2 ⟨by omega,fun r hr=>?_⟩
  obtain ⟨i,hi⟩:=List.mem_iff_getElem?.1 hr
  obtain ⟨q1,q2⟩:=hI i r (List.getElem?_eq_some_iff.1 hi).1 hi
  exact ⟨by rw [q1,hw],Hq.1 q2⟩
 repeat' ((first|refine A6 ?_|refine S1 ?_|refine Z1 ?_|refine Z2 ?_|(refine And.intro ?_ ?_<;>intro h<;>try first|(exfalso;omega)|exact absurd rfl h)|refine Z3 ?_|refine Z4 ?_|intro el hel hbB|intro el hel|intro ex|refine Z5 ?_|(refine B2 ?_ ?_;exact ⟨by kernel_rfl,by decide⟩)|refine B0 ?_ ?_|exact A9|refine A8 ?_ ?_|exact A7|(refine A3 ?_ ?_ ?_;kernel_rfl;kernel_rfl)) <;> (try (conv=>whnf)))
 all_goals first
  | (exfalso;omega)
  | exact C1 rfl (congrArg AV.b hGt.symm)
def KK (l:List (List Int)):List (List Int):=if X0 l = true then D2 l (C8 l) else []
set_option maxHeartbeats 4000000 in
theorem Ls (l:List (List Int)):B6 Tryd.prog 15 [C3 l] (C3 (KK l)):=by
 have h1:=Bk l
 unfold KK
 cases he:X0 l with
 | false =>
   rw [he] at h1
   rw [if_neg (by simp)]
   refine E1 Tryd.func15 8 fun hrd E h0=>?_
   clear hrd
   repeat' ((first | refine A4 h1 ?_ |refine A6 ?_|refine S1 ?_|refine Z1 ?_|refine Z2 ?_|(refine And.intro ?_ ?_<;>intro h<;>try first|(exfalso;omega)|exact absurd rfl h)|refine Z3 ?_|refine Z4 ?_|intro el hel hbB|intro el hel|intro ex|refine Z5 ?_|(refine B2 ?_ ?_;exact ⟨by kernel_rfl,by decide⟩)|refine B0 ?_ ?_|exact A9|refine A8 ?_ ?_|exact A7|(refine A3 ?_ ?_ ?_;kernel_rfl;kernel_rfl)) <;> (try (conv=>whnf)))
   all_goals first
    | (exfalso;omega)
    | exact Ov rfl rfl
 | true =>
   rw [he] at h1
   rw [if_pos rfl]
   obtain ⟨q1,q2⟩:=(X1 l).1 he
   have h2:=CW l (C8 l) rfl (by omega) (by omega) q2
   refine E1 Tryd.func15 8 fun hrd E h0=>?_
   clear hrd
   repeat' ((first | refine A4 h1 ?_ | refine A4 h2 ?_ |refine A6 ?_|refine S1 ?_|refine Z1 ?_|refine Z2 ?_|(refine And.intro ?_ ?_<;>intro h<;>try first|(exfalso;omega)|exact absurd rfl h)|refine Z3 ?_|refine Z4 ?_|intro el hel hbB|intro el hel|intro ex|refine Z5 ?_|(refine B2 ?_ ?_;exact ⟨by kernel_rfl,by decide⟩)|refine B0 ?_ ?_|exact A9|refine A8 ?_ ?_|exact A7|(refine A3 ?_ ?_ ?_;kernel_rfl;kernel_rfl)) <;> (try (conv=>whnf)))
   all_goals first
    | (exfalso;omega)
    | exact C1 rfl rfl
set_option maxHeartbeats 8000000 in
theorem Lt (l:List (List Int)) (hx:X0 l = true) (o:Option (Int × Int)) (hT:CP l = o):B6 Tryd.prog 28 [C3 l] (FC o):=by
 obtain ⟨q1,q2⟩:=(X1 l).1 hx
 have hy:∀ r ∈ l, ∃ y,r[0]? = some y ∧ r.getD 0 0 = y ∧ -1000000 ≤ y ∧ y ≤ 1000000:=fun r hr=>by
  obtain ⟨h1,h2⟩:=q2 r hr
  obtain ⟨y,hy⟩:∃ y,r[0]? = some y:=⟨_,List.getElem?_eq_getElem (by omega)⟩
  exact ⟨y,hy,by rw [List.getD_eq_getElem?_getD,hy];rfl,h2 y (List.mem_of_getElem? hy)⟩
 have hb1:∀ k, -200000000 ≤ C0 (l.take k) (fun r=>r.getD 0 0) ∧ C0 (l.take k) (fun r=>r.getD 0 0) ≤ 200000000:=fun k=>by
  have:=FD (l:=l.take k) (f:=fun r=>r.getD 0 0) (B:=1000000) fun r hr=>by
   obtain ⟨y,_,h2,h3⟩:=hy r (List.mem_of_mem_take hr)
   rw [h2];omega
  have h2:(l.take k).length ≤ 200:=by rw [List.length_take];omega
  omega
 have hb2:∀ k, -200000000000000 ≤ C0 (l.take k) (fun r=>r.getD 0 0 * r.getD 0 0) ∧ C0 (l.take k) (fun r=>r.getD 0 0 * r.getD 0 0) ≤ 200000000000000:=fun k=>JG q1.2.1 q2
 have hfin:∀ k,k = l.length → CP l = J8 (l.length * C0 (l.take k) (fun r=>r.getD 0 0 * r.getD 0 0) - C0 (l.take k) (fun r=>r.getD 0 0) * C0 (l.take k) fun r=>r.getD 0 0) l.length:=fun k hk=>by subst hk;rw [List.take_length];rfl
 have hsq:∀ k, -40000000000000000 ≤ C0 (l.take k) (fun r=>r.getD 0 0) * C0 (l.take k) (fun r=>r.getD 0 0) ∧ C0 (l.take k) (fun r=>r.getD 0 0) * C0 (l.take k) (fun r=>r.getD 0 0) ≤ 40000000000000000:=fun k=>by
  have h:=hb1 k
  generalize C0 (l.take k) (fun r=>r.getD 0 0) = s at *
  have h3:(s * s).natAbs ≤ 200000000 * 200000000:=by
   rw [Int.natAbs_mul]
   exact Nat.mul_le_mul (by omega) (by omega)
  omega
 have hnq:∀ k, -40000000000000000 ≤ (l.length:Int) * C0 (l.take k) (fun r=>r.getD 0 0 * r.getD 0 0) ∧ (l.length:Int) * C0 (l.take k) (fun r=>r.getD 0 0 * r.getD 0 0) ≤ 40000000000000000:=fun k=>by
  have h:=hb2 k
  generalize C0 (l.take k) (fun r=>r.getD 0 0 * r.getD 0 0) = s at *
  have h3:((l.length:Int) * s).natAbs ≤ 200 * 200000000000000:=by
   rw [Int.natAbs_mul]
   exact Nat.mul_le_mul (by omega) (by omega)
  omega
 have ho:∀ k,B6 Tryd.prog 49 [.i (l.length * C0 (l.take k) (fun r=>r.getD 0 0 * r.getD 0 0) - C0 (l.take k) (fun r=>r.getD 0 0) * C0 (l.take k) fun r=>r.getD 0 0), .i l.length] (FC (J8 (l.length * C0 (l.take k) (fun r=>r.getD 0 0 * r.getD 0 0) - C0 (l.take k) (fun r=>r.getD 0 0) * C0 (l.take k) fun r=>r.getD 0 0) l.length)):=fun k=>PU _ _ (by have:=hsq k;have:=hnq k;omega) (by omega)
 cases o with
 | none =>
   refine E1 Tryd.func28 43 fun hrd E h0=>?_
   clear hrd
   repeat' ((first|refine A6 ?_|refine S1 ?_|refine Z1 ?_|refine Z2 ?_|(refine And.intro ?_ ?_<;>intro h<;>try first|(exfalso;omega)|exact absurd rfl h)|refine Z3 ?_|refine Z4 ?_|intro el hel hbB|intro el hel|intro ex|refine Z5 ?_|(refine B2 ?_ ?_;exact ⟨by kernel_rfl,by decide⟩)|refine B0 ?_ ?_|exact A9|refine A8 ?_ ?_|exact A7|(refine A3 ?_ ?_ ?_;kernel_rfl;kernel_rfl)) <;> (try (conv=>whnf)))
   all_goals first
    | (exfalso;omega)
    | skip
   refine F4 (ι:=Nat) (fun k=>⟨[(2, .ref 0 0),(4, .i l.length),(5, .i (C0 (l.take k) fun r=>r.getD 0 0)),(6, .i (C0 (l.take k) fun r=>r.getD 0 0 * r.getD 0 0)),(11,C3 l),(12, .i l.length),(13, .i k)],1,[(0,some (.box [.i 0, .i 0]))]⟩) (fun k=>k ≤ l.length) (fun k=>l.length - k) 0 (Nat.zero_le _)
    (B3 h0 rfl ⟨rfl,rfl,rfl,rfl,rfl,rfl,rfl,trivial⟩ ⟨rfl,trivial⟩ rfl rfl rfl) (fun k hk=>?_)
   have h1:=hb1 k
   have h2:=hb2 k
   by_cases hkl:k < l.length
   ·obtain ⟨r,hr⟩:∃ r,l[k]? = some r:=⟨_,List.getElem?_eq_getElem hkl⟩
    have hr2:l[((k:Nat):Int).toNat]? = some r:=hr
    obtain ⟨y,hy0,hyg,hyb⟩:=hy r (List.mem_of_getElem? hr)
    have hy02:r[((0:Int)).toNat]? = some y:=hy0
    have t1:=R1 hr fun r=>r.getD 0 0
    have t2:=R1 hr fun r=>r.getD 0 0 * r.getD 0 0
    rw [hyg] at t1 t2
    have hm:=u4 hyb hyb
    repeat' ((first | (refine B4 (x:=r) hr2 (by omega) ?_) | (refine B4 (x:=y) hy02 (by omega) ?_) | (refine U2 ?_ ?_;kernel_rfl) |refine A6 ?_|refine S1 ?_|refine Z1 ?_|refine Z2 ?_|(refine And.intro ?_ ?_<;>intro h<;>try first|(exfalso;omega)|exact absurd rfl h)|refine Z3 ?_|refine Z4 ?_|intro el hel hbB|intro el hel|intro ex|refine Z5 ?_|(refine B2 ?_ ?_;exact ⟨by kernel_rfl,by decide⟩)|refine B0 ?_ ?_|exact A9|refine A8 ?_ ?_|exact A7|(refine A3 ?_ ?_ ?_;kernel_rfl;kernel_rfl)) <;> (try (conv=>whnf)))
    all_goals first
     | (exfalso;omega)
     | exact ⟨k + 1,by omega,by omega,B3 h0 rfl ⟨rfl,rfl,congrArg (fun z=>some (AV.i z)) t1.symm,congrArg (fun z=>some (AV.i z)) t2.symm,rfl,rfl,rfl,trivial⟩ ⟨rfl,trivial⟩ rfl rfl rfl⟩
   ·have hof:=ho k
    rw [hfin k (by omega)] at hT
    rw [hT] at hof
    have h3:=hsq k
    have h4:=hnq k
    clear ho hfin hsq hnq hb1 hb2 hT
    generalize C0 (l.take k) (fun r=>r.getD 0 0 * r.getD 0 0) = Q at *
    generalize C0 (l.take k) (fun r=>r.getD 0 0) = S at *
    repeat' ((first | refine A4 hof ?_ |refine A6 ?_|refine S1 ?_|refine Z1 ?_|refine Z2 ?_|(refine And.intro ?_ ?_<;>intro h<;>try first|(exfalso;omega)|exact absurd rfl h)|refine Z3 ?_|refine Z4 ?_|intro el hel hbB|intro el hel|intro ex|refine Z5 ?_|(refine B2 ?_ ?_;exact ⟨by kernel_rfl,by decide⟩)|refine B0 ?_ ?_|exact A9|refine A8 ?_ ?_|exact A7|(refine A3 ?_ ?_ ?_;kernel_rfl;kernel_rfl)) <;> (try (conv=>whnf)))
    all_goals first
     | (exfalso;omega)
     | exact F9 rfl rfl rfl (.refl _) rfl (.refl _) rfl
 | some p =>
   obtain ⟨a,b⟩:=p
   refine E1 Tryd.func28 43 fun hrd E h0=>?_
   clear hrd
   repeat' ((first|refine A6 ?_|refine S1 ?_|refine Z1 ?_|refine Z2 ?_|(refine And.intro ?_ ?_<;>intro h<;>try first|(exfalso;omega)|exact absurd rfl h)|refine Z3 ?_|refine Z4 ?_|intro el hel hbB|intro el hel|intro ex|refine Z5 ?_|(refine B2 ?_ ?_;exact ⟨by kernel_rfl,by decide⟩)|refine B0 ?_ ?_|exact A9|refine A8 ?_ ?_|exact A7|(refine A3 ?_ ?_ ?_;kernel_rfl;kernel_rfl)) <;> (try (conv=>whnf)))
   all_goals first
    | (exfalso;omega)
    | skip
   refine F4 (ι:=Nat) (fun k=>⟨[(2, .ref 0 0),(4, .i l.length),(5, .i (C0 (l.take k) fun r=>r.getD 0 0)),(6, .i (C0 (l.take k) fun r=>r.getD 0 0 * r.getD 0 0)),(11,C3 l),(12, .i l.length),(13, .i k)],1,[(0,some (.box [.i 0, .i 0]))]⟩) (fun k=>k ≤ l.length) (fun k=>l.length - k) 0 (Nat.zero_le _)
    (B3 h0 rfl ⟨rfl,rfl,rfl,rfl,rfl,rfl,rfl,trivial⟩ ⟨rfl,trivial⟩ rfl rfl rfl) (fun k hk=>?_)
   have h1:=hb1 k
   have h2:=hb2 k
   by_cases hkl:k < l.length
   ·obtain ⟨r,hr⟩:∃ r,l[k]? = some r:=⟨_,List.getElem?_eq_getElem hkl⟩
    have hr2:l[((k:Nat):Int).toNat]? = some r:=hr
    obtain ⟨y,hy0,hyg,hyb⟩:=hy r (List.mem_of_getElem? hr)
    have hy02:r[((0:Int)).toNat]? = some y:=hy0
    have t1:=R1 hr fun r=>r.getD 0 0
    have t2:=R1 hr fun r=>r.getD 0 0 * r.getD 0 0
    rw [hyg] at t1 t2
    have hm:=u4 hyb hyb
    repeat' ((first | (refine B4 (x:=r) hr2 (by omega) ?_) | (refine B4 (x:=y) hy02 (by omega) ?_) | (refine U2 ?_ ?_;kernel_rfl) |refine A6 ?_|refine S1 ?_|refine Z1 ?_|refine Z2 ?_|(refine And.intro ?_ ?_<;>intro h<;>try first|(exfalso;omega)|exact absurd rfl h)|refine Z3 ?_|refine Z4 ?_|intro el hel hbB|intro el hel|intro ex|refine Z5 ?_|(refine B2 ?_ ?_;exact ⟨by kernel_rfl,by decide⟩)|refine B0 ?_ ?_|exact A9|refine A8 ?_ ?_|exact A7|(refine A3 ?_ ?_ ?_;kernel_rfl;kernel_rfl)) <;> (try (conv=>whnf)))
    all_goals first
     | (exfalso;omega)
     | exact ⟨k + 1,by omega,by omega,B3 h0 rfl ⟨rfl,rfl,congrArg (fun z=>some (AV.i z)) t1.symm,congrArg (fun z=>some (AV.i z)) t2.symm,rfl,rfl,rfl,trivial⟩ ⟨rfl,trivial⟩ rfl rfl rfl⟩
   ·have hof:=ho k
    rw [hfin k (by omega)] at hT
    rw [hT] at hof
    have h3:=hsq k
    have h4:=hnq k
    clear ho hfin hsq hnq hb1 hb2 hT
    generalize C0 (l.take k) (fun r=>r.getD 0 0 * r.getD 0 0) = Q at *
    generalize C0 (l.take k) (fun r=>r.getD 0 0) = S at *
    repeat' ((first | refine A4 hof ?_ |refine A6 ?_|refine S1 ?_|refine Z1 ?_|refine Z2 ?_|(refine And.intro ?_ ?_<;>intro h<;>try first|(exfalso;omega)|exact absurd rfl h)|refine Z3 ?_|refine Z4 ?_|intro el hel hbB|intro el hel|intro ex|refine Z5 ?_|(refine B2 ?_ ?_;exact ⟨by kernel_rfl,by decide⟩)|refine B0 ?_ ?_|exact A9|refine A8 ?_ ?_|exact A7|(refine A3 ?_ ?_ ?_;kernel_rfl;kernel_rfl)) <;> (try (conv=>whnf)))
    all_goals first
     | (exfalso;omega)
     | exact F9 rfl rfl rfl (.refl _) rfl (.refl _) rfl
theorem KL (l:List (List Int)) (hx:X0 l = true):B6 Tryd.prog 28 [C3 l] (FC (CP l)):=Lt l hx _ rfl
end Go.Proofs.YtbhegmcbpolemaaDoor

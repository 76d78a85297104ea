/- What sums of products are asked of; Gram; the sum of squares about the mean: by the program. -/
import Derived.Test.YtbhegmcbpolemaaDoorTJm2
set_option linter.unusedVariables false
set_option linter.unnecessarySimpa false
set_option linter.unusedSimpArgs false
namespace Go.Proofs.YtbhegmcbpolemaaDoor
open Go Go.Av
attribute [local irreducible] E4 B6 F1 E7 DQ F6 F9 St.le B5 D4
set_option maxRecDepth 100000
set_option maxHeartbeats 2000000 in
theorem Ow (l:List (Int)) (f:Nat) (caps:List AV) (p:(Int) → Bool) (hf:∀ x ∈ l,B5 Tryd.prog f ((fun x=>.i x) x :: caps) (.b (p x))):B5 Tryd.prog 63 [.sl 1 (l.map C3), .fn f caps] (.i (BK p l 0)):=by
 refine D1 Tryd.func63 19 fun hrd E h0=>?_
 have hlen:l.length ≤ 9223372036854775807:=by have:=(hrd (.sl 1 (l.map C3)) (by simp)).sl;simpa using this
 repeat' ((first|refine A5 ?_|refine S1 ?_|refine Z1 ?_|refine Z2 ?_|(refine And.intro ?_ ?_<;>intro h<;>try first|(exfalso;omega)|exact absurd rfl h)|refine Z3 ?_|refine Z4 ?_|intro el hel hbB|intro el hel|intro ex|refine Z5 ?_|(refine B0 ?_ ?_;exact ⟨by kernel_rfl,by decide⟩)|refine A9 ?_ ?_|exact A8|refine A7 ?_ ?_|exact A6|(refine A3 ?_ ?_ ?_;kernel_rfl;kernel_rfl)) <;> (try (conv=>whnf)))
 refine D7 (ι:=Nat) (fun k=>⟨[(0, .sl 1 (l.map C3)),(1, .fn f caps),(7, .i l.length),(8, .i k)],0,[]⟩) (fun k=>k ≤ l.length ∧ BK p l 0 = BK p (l.drop k) k) (fun k=>l.length - k) 0 ⟨Nat.zero_le _,rfl⟩ (B4 h0 rfl ⟨rfl,rfl,rfl,rfl,trivial⟩ trivial rfl rfl rfl) (fun k hI=>?_)
 obtain ⟨hk,hI⟩:=hI
 repeat' ((first | refine A4 (hf _ (List.mem_of_getElem? hel)) ?_ |refine A5 ?_|refine S1 ?_|refine Z1 ?_|refine Z2 ?_|(refine And.intro ?_ ?_<;>intro h<;>try first|(exfalso;omega)|exact absurd rfl h)|refine Z3 ?_|refine Z4 ?_|intro el hel hbB|intro el hel|intro ex|refine Z5 ?_|(refine B0 ?_ ?_;exact ⟨by kernel_rfl,by decide⟩)|refine A9 ?_ ?_|exact A8|refine A7 ?_ ?_|exact A6|(refine A3 ?_ ?_ ?_;kernel_rfl;kernel_rfl)) <;> (try (conv=>whnf)))
 all_goals first
  | exact ⟨k + 1,⟨by omega,by rw [hI,Nw hel,BK,if_neg (by simp [h])];rfl⟩,by omega,B4 h0 rfl ⟨rfl,rfl,rfl,rfl,trivial⟩ trivial rfl rfl rfl⟩
  | exact B9 rfl (congrArg AV.i (by rw [hI,Nw hel,BK,if_pos (by simp [h])]))
  | exact B9 rfl (congrArg AV.i (by rw [hI,show k = l.length by omega,List.drop_length];rfl))
set_option maxHeartbeats 2000000 in
theorem Ox (l:List (Int)) (f:Nat) (caps:List AV) (p:(Int) → Bool) (hf:∀ x ∈ l,B5 Tryd.prog f ((fun x=>.i x) x :: caps) (.b (p x))):B5 Tryd.prog 44 [.sl 1 (l.map C3), .fn f caps] (.b (l.any p)):=by
 refine D1 Tryd.func44 9 fun hrd E h0=>?_
 have hidx:=Ow l f caps p hf
 repeat' ((first | refine A4 hidx ?_ |refine A5 ?_|refine S1 ?_|refine Z1 ?_|refine Z2 ?_|(refine And.intro ?_ ?_<;>intro h<;>try first|(exfalso;omega)|exact absurd rfl h)|refine Z3 ?_|refine Z4 ?_|intro el hel hbB|intro el hel|intro ex|refine Z5 ?_|(refine B0 ?_ ?_;exact ⟨by kernel_rfl,by decide⟩)|refine A9 ?_ ?_|exact A8|refine A7 ?_ ?_|exact A6|(refine A3 ?_ ?_ ?_;kernel_rfl;kernel_rfl)) <;> (try (conv=>whnf)))
 all_goals first
  | exact B9 rfl (congrArg AV.b (HS p l 0 (by omega)))
def AG (x:Int):Bool:=decide (x < -1000000 ∨ 1000000 < x)
set_option maxHeartbeats 4000000 in
theorem LK (x:Int):B5 Tryd.prog 45 [.i x] (.b (AG x)):=by
 unfold AG
 by_cases h:x < -1000000 ∨ 1000000 < x
 ·rw [decide_eq_true h]
  refine D1 Tryd.func45 9 fun hrd E h0=>?_
  clear hrd
  repeat' ((first|refine A5 ?_|refine S1 ?_|refine Z1 ?_|refine Z2 ?_|(refine And.intro ?_ ?_<;>intro h<;>try first|(exfalso;omega)|exact absurd rfl h)|refine Z3 ?_|refine Z4 ?_|intro el hel hbB|intro el hel|intro ex|refine Z5 ?_|(refine B0 ?_ ?_;exact ⟨by kernel_rfl,by decide⟩)|refine A9 ?_ ?_|exact A8|refine A7 ?_ ?_|exact A6|(refine A3 ?_ ?_ ?_;kernel_rfl;kernel_rfl)) <;> (try (conv=>whnf)))
  all_goals first
   | (exfalso;omega)
   | exact B9 rfl rfl
   | exact B9 rfl (congrArg AV.b (decide_eq_true (by omega)))
 ·rw [decide_eq_false h]
  refine D1 Tryd.func45 9 fun hrd E h0=>?_
  clear hrd
  repeat' ((first|refine A5 ?_|refine S1 ?_|refine Z1 ?_|refine Z2 ?_|(refine And.intro ?_ ?_<;>intro h<;>try first|(exfalso;omega)|exact absurd rfl h)|refine Z3 ?_|refine Z4 ?_|intro el hel hbB|intro el hel|intro ex|refine Z5 ?_|(refine B0 ?_ ?_;exact ⟨by kernel_rfl,by decide⟩)|refine A9 ?_ ?_|exact A8|refine A7 ?_ ?_|exact A6|(refine A3 ?_ ?_ ?_;kernel_rfl;kernel_rfl)) <;> (try (conv=>whnf)))
  all_goals first
   | (exfalso;omega)
   | exact B9 rfl rfl
   | exact B9 rfl (congrArg AV.b (decide_eq_false (by omega)))
theorem LL {f g:Nat} {a r:AV} (h:B5 Tryd.prog f [a, .fn g []] r):B5 Tryd.prog f [a, .v (.func (.func g) #[] #[])] r:=by
 delta B5 at h ⊢
 refine ⟨h.1,fun X w vs hX htb hl hv=>h.2 X w vs hX htb hl fun j b v hj hvj=>?_⟩
 match j,hj with
 | 0,hj=>exact hv 0 b v hj hvj
 | 1,hj =>
   cases hj
   have:=hv 1 _ v rfl hvj
   cases this
   exact .fn g [] [] rfl fun j x c hx=>by simp at hx
theorem CZ {l:List (List Int)} (h:¬ ((1 ≤ l.length ∧ l.length ≤ 200 ∧ 1 ≤ H8 l ∧ H8 l ≤ 5) ∧ ∀ r ∈ l,r.length = H8 l ∧ ∀ x ∈ r, -1000000 ≤ x ∧ x ≤ 1000000)):P6 l = false:=by
 cases e:P6 l with
 | false=>rfl
 | true=>exact absurd ((P7 l).1 e) h
theorem HT {r:List Int}:r.any AG = false ↔ ∀ x ∈ r, -1000000 ≤ x ∧ x ≤ 1000000:=by
 constructor
 ·intro h x hx
  by_cases e:-1000000 ≤ x ∧ x ≤ 1000000
  ·exact e
  ·have:=List.any_eq_true.2 ⟨x,hx,(show AG x = true by unfold AG;exact decide_eq_true (by omega))⟩
   rw [h] at this;cases this
 ·intro h
  exact R4 fun x hx=>by unfold AG;exact decide_eq_false (by have:=h x hx;omega)
set_option maxHeartbeats 16000000 in
theorem BV (l:List (List Int)):B5 Tryd.prog 23 [B7 l] (.b (P6 l)):=by
 generalize hG:P6 l = G
 by_cases h1:l.length = 0
 ·rw [CZ (by omega)] at hG
  subst hG
  refine D1 Tryd.func23 45 fun hrd E h0=>?_
  clear hrd
  repeat' ((first|refine A5 ?_|refine S1 ?_|refine Z1 ?_|refine Z2 ?_|(refine And.intro ?_ ?_<;>intro h<;>try first|(exfalso;omega)|exact absurd rfl h)|refine Z3 ?_|refine Z4 ?_|intro el hel hbB|intro el hel|intro ex|refine Z5 ?_|(refine B0 ?_ ?_;exact ⟨by kernel_rfl,by decide⟩)|refine A9 ?_ ?_|exact A8|refine A7 ?_ ?_|exact A6|(refine A3 ?_ ?_ ?_;kernel_rfl;kernel_rfl)) <;> (try (conv=>whnf)))
  all_goals first
   | (exfalso;omega)
   | exact B9 rfl rfl
 obtain ⟨r0,hr0⟩:∃ r,l[0]? = some r:=⟨_,List.getElem?_eq_getElem (by omega)⟩
 have hr00:l[((0:Int)).toNat]? = some r0:=hr0
 have hw:=X6 hr0
 by_cases h2:l.length ≤ 200 ∧ 1 ≤ r0.length ∧ r0.length ≤ 5
 rotate_left
 ·rw [CZ (by omega)] at hG
  subst hG
  refine D1 Tryd.func23 45 fun hrd E h0=>?_
  have hlen:l.length ≤ 9223372036854775807:=by have:=(hrd (B7 l) (by simp)).sl;simpa using this
  have hlens:∀ r ∈ l,r.length ≤ 9223372036854775807:=fun r hr=>by
   have:=((hrd (B7 l) (by simp)).elem [B8 r] (List.mem_map.2 ⟨r,hr,rfl⟩) (B8 r) (by simp)).sl
   simpa using this
  have hl0:=hlens r0 (List.mem_of_getElem? hr0)
  clear hrd hlens
  repeat' ((first | (refine B3 (x:=r0) hr00 (by omega) ?_) |refine A5 ?_|refine S1 ?_|refine Z1 ?_|refine Z2 ?_|(refine And.intro ?_ ?_<;>intro h<;>try first|(exfalso;omega)|exact absurd rfl h)|refine Z3 ?_|refine Z4 ?_|intro el hel hbB|intro el hel|intro ex|refine Z5 ?_|(refine B0 ?_ ?_;exact ⟨by kernel_rfl,by decide⟩)|refine A9 ?_ ?_|exact A8|refine A7 ?_ ?_|exact A6|(refine A3 ?_ ?_ ?_;kernel_rfl;kernel_rfl)) <;> (try (conv=>whnf)))
  all_goals first
   | (exfalso;omega)
   | exact B9 rfl rfl
 have hidx:∀ r:List Int,B5 Tryd.prog 44 [B8 r, .v (.func (.func 45) #[] #[])] (.b (r.any AG)):=fun r=>LL <| Ox r 45 [] AG fun x _=>LK x
 refine D1 Tryd.func23 45 fun hrd E h0=>?_
 have hlens:∀ r ∈ l,r.length ≤ 9223372036854775807:=fun r hr=>by
  have:=((hrd (B7 l) (by simp)).elem [B8 r] (List.mem_map.2 ⟨r,hr,rfl⟩) (B8 r) (by simp)).sl
  simpa using this
 clear hrd
 repeat' ((first | (refine B3 (x:=r0) hr00 (by omega) ?_) |refine A5 ?_|refine S1 ?_|refine Z1 ?_|refine Z2 ?_|(refine And.intro ?_ ?_<;>intro h<;>try first|(exfalso;omega)|exact absurd rfl h)|refine Z3 ?_|refine Z4 ?_|intro el hel hbB|intro el hel|intro ex|refine Z5 ?_|(refine B0 ?_ ?_;exact ⟨by kernel_rfl,by decide⟩)|refine A9 ?_ ?_|exact A8|refine A7 ?_ ?_|exact A6|(refine A3 ?_ ?_ ?_;kernel_rfl;kernel_rfl)) <;> (try (conv=>whnf)))
 all_goals first
  | (exfalso;omega)
  | skip
 refine D7 (ι:=Nat) (fun k=>⟨[(0,B7 l),(27,B7 l),(28, .i l.length),(29, .i k)],0,[]⟩) (fun k=>k ≤ l.length ∧ ∀ (i:Nat) r,i < k → l[i]? = some r → r.length = r0.length ∧ r.any AG = false) (fun k=>l.length - k) 0 ⟨Nat.zero_le _,fun i r h=>absurd h (Nat.not_lt_zero _)⟩
  (B4 h0 rfl ⟨rfl,rfl,rfl,rfl,trivial⟩ trivial rfl rfl rfl) (fun k hI=>?_)
 obtain ⟨hk,hI⟩:=hI
 by_cases hkl:k < l.length
 ·obtain ⟨r,hr⟩:∃ r,l[k]? = some r:=⟨_,List.getElem?_eq_getElem hkl⟩
  have hr2:l[((k:Nat):Int).toNat]? = some r:=hr
  have hrl:=hlens r (List.mem_of_getElem? hr)
  have hc:=hidx r
  by_cases hrn:r.length = r0.length
  ·by_cases hb:r.any AG = false
   ·rw [hb] at hc
    repeat' ((first | (refine B3 (x:=r) hr2 (by omega) ?_) | (refine B3 (x:=r0) hr00 (by omega) ?_) | refine A4 hc ?_ |refine A5 ?_|refine S1 ?_|refine Z1 ?_|refine Z2 ?_|(refine And.intro ?_ ?_<;>intro h<;>try first|(exfalso;omega)|exact absurd rfl h)|refine Z3 ?_|refine Z4 ?_|intro el hel hbB|intro el hel|intro ex|refine Z5 ?_|(refine B0 ?_ ?_;exact ⟨by kernel_rfl,by decide⟩)|refine A9 ?_ ?_|exact A8|refine A7 ?_ ?_|exact A6|(refine A3 ?_ ?_ ?_;kernel_rfl;kernel_rfl)) <;> (try (conv=>whnf)))
    all_goals first
     | (exfalso;omega)
     | exact ⟨k + 1,⟨by omega,fun i r2 hi hq=>by
       by_cases e:i = k
       ·rw [e,hr] at hq;cases hq;exact ⟨hrn,hb⟩
       ·exact hI i r2 (by omega) hq⟩,by omega,B4 h0 rfl ⟨rfl,rfl,rfl,rfl,trivial⟩ trivial rfl rfl rfl⟩
   ·rw [CZ fun h=>hb (HT.2 (h.2 r (List.mem_of_getElem? hr)).2)] at hG
    subst hG
    rw [Bool.not_eq_false] at hb
    rw [hb] at hc
    repeat' ((first | (refine B3 (x:=r) hr2 (by omega) ?_) | (refine B3 (x:=r0) hr00 (by omega) ?_) | refine A4 hc ?_ |refine A5 ?_|refine S1 ?_|refine Z1 ?_|refine Z2 ?_|(refine And.intro ?_ ?_<;>intro h<;>try first|(exfalso;omega)|exact absurd rfl h)|refine Z3 ?_|refine Z4 ?_|intro el hel hbB|intro el hel|intro ex|refine Z5 ?_|(refine B0 ?_ ?_;exact ⟨by kernel_rfl,by decide⟩)|refine A9 ?_ ?_|exact A8|refine A7 ?_ ?_|exact A6|(refine A3 ?_ ?_ ?_;kernel_rfl;kernel_rfl)) <;> (try (conv=>whnf)))
    all_goals first
     | (exfalso;omega)
     | exact B9 rfl rfl
  ·rw [CZ fun h=>hrn (by rw [(h.2 r (List.mem_of_getElem? hr)).1,hw])] at hG
   subst hG
   repeat' ((first | (refine B3 (x:=r) hr2 (by omega) ?_) | (refine B3 (x:=r0) hr00 (by omega) ?_) | refine A4 hc ?_ |refine A5 ?_|refine S1 ?_|refine Z1 ?_|refine Z2 ?_|(refine And.intro ?_ ?_<;>intro h<;>try first|(exfalso;omega)|exact absurd rfl h)|refine Z3 ?_|refine Z4 ?_|intro el hel hbB|intro el hel|intro ex|refine Z5 ?_|(refine B0 ?_ ?_;exact ⟨by kernel_rfl,by decide⟩)|refine A9 ?_ ?_|exact A8|refine A7 ?_ ?_|exact A6|(refine A3 ?_ ?_ ?_;kernel_rfl;kernel_rfl)) <;> (try (conv=>whnf)))
   all_goals first
    | (exfalso;omega)
    | exact B9 rfl rfl
 have hkk:k = l.length:=by omega
 subst hkk
 have hGt:G = true:=by
  rw [← hG]
  refine (P7 l).2 ⟨by omega,fun r hr=>?_⟩
  obtain ⟨i,hi⟩:=List.mem_iff_getElem?.1 hr
  obtain ⟨q1,q2⟩:=hI i r (List.getElem?_eq_some_iff.1 hi).1 hi
  exact ⟨by rw [q1,hw],HT.1 q2⟩
 repeat' ((first|refine A5 ?_|refine S1 ?_|refine Z1 ?_|refine Z2 ?_|(refine And.intro ?_ ?_<;>intro h<;>try first|(exfalso;omega)|exact absurd rfl h)|refine Z3 ?_|refine Z4 ?_|intro el hel hbB|intro el hel|intro ex|refine Z5 ?_|(refine B0 ?_ ?_;exact ⟨by kernel_rfl,by decide⟩)|refine A9 ?_ ?_|exact A8|refine A7 ?_ ?_|exact A6|(refine A3 ?_ ?_ ?_;kernel_rfl;kernel_rfl)) <;> (try (conv=>whnf)))
 all_goals first
  | (exfalso;omega)
  | exact B9 rfl (congrArg AV.b hGt.symm)
def k7 (l:List (List Int)):List (List Int):=if P6 l = true then G9 l (H8 l) else []
set_option maxHeartbeats 4000000 in
theorem Fu (l:List (List Int)):B5 Tryd.prog 15 [B7 l] (B7 (k7 l)):=by
 have h1:=BV l
 unfold k7
 cases he:P6 l with
 | false =>
   rw [he] at h1
   rw [if_neg (by simp)]
   refine D1 Tryd.func15 8 fun hrd E h0=>?_
   clear hrd
   repeat' ((first | refine A4 h1 ?_ |refine A5 ?_|refine S1 ?_|refine Z1 ?_|refine Z2 ?_|(refine And.intro ?_ ?_<;>intro h<;>try first|(exfalso;omega)|exact absurd rfl h)|refine Z3 ?_|refine Z4 ?_|intro el hel hbB|intro el hel|intro ex|refine Z5 ?_|(refine B0 ?_ ?_;exact ⟨by kernel_rfl,by decide⟩)|refine A9 ?_ ?_|exact A8|refine A7 ?_ ?_|exact A6|(refine A3 ?_ ?_ ?_;kernel_rfl;kernel_rfl)) <;> (try (conv=>whnf)))
   all_goals first
    | (exfalso;omega)
    | exact AM rfl rfl
 | true =>
   rw [he] at h1
   rw [if_pos rfl]
   obtain ⟨q1,q2⟩:=(P7 l).1 he
   have h2:=CF l (H8 l) rfl (by omega) (by omega) q2
   refine D1 Tryd.func15 8 fun hrd E h0=>?_
   clear hrd
   repeat' ((first | refine A4 h1 ?_ | refine A4 h2 ?_ |refine A5 ?_|refine S1 ?_|refine Z1 ?_|refine Z2 ?_|(refine And.intro ?_ ?_<;>intro h<;>try first|(exfalso;omega)|exact absurd rfl h)|refine Z3 ?_|refine Z4 ?_|intro el hel hbB|intro el hel|intro ex|refine Z5 ?_|(refine B0 ?_ ?_;exact ⟨by kernel_rfl,by decide⟩)|refine A9 ?_ ?_|exact A8|refine A7 ?_ ?_|exact A6|(refine A3 ?_ ?_ ?_;kernel_rfl;kernel_rfl)) <;> (try (conv=>whnf)))
   all_goals first
    | (exfalso;omega)
    | exact B9 rfl rfl
set_option maxHeartbeats 8000000 in
theorem LM (l:List (List Int)) (hx:P6 l = true) (o:Option (Int × Int)) (hT:CE l = o):B5 Tryd.prog 28 [B7 l] (CD o):=by
 obtain ⟨q1,q2⟩:=(P7 l).1 hx
 have hy:∀ r ∈ l, ∃ y,r[0]? = some y ∧ r.getD 0 0 = y ∧ -1000000 ≤ y ∧ y ≤ 1000000:=fun r hr=>by
  obtain ⟨h1,h2⟩:=q2 r hr
  obtain ⟨y,hy⟩:∃ y,r[0]? = some y:=⟨_,List.getElem?_eq_getElem (by omega)⟩
  exact ⟨y,hy,by rw [List.getD_eq_getElem?_getD,hy];rfl,h2 y (List.mem_of_getElem? hy)⟩
 have hb1:∀ k, -200000000 ≤ C8 (l.take k) (fun r=>r.getD 0 0) ∧ C8 (l.take k) (fun r=>r.getD 0 0) ≤ 200000000:=fun k=>by
  have:=p5 (l:=l.take k) (f:=fun r=>r.getD 0 0) (B:=1000000) fun r hr=>by
   obtain ⟨y,_,h2,h3⟩:=hy r (List.mem_of_mem_take hr)
   rw [h2];omega
  have h2:(l.take k).length ≤ 200:=by rw [List.length_take];omega
  omega
 have hb2:∀ k, -200000000000000 ≤ C8 (l.take k) (fun r=>r.getD 0 0 * r.getD 0 0) ∧ C8 (l.take k) (fun r=>r.getD 0 0 * r.getD 0 0) ≤ 200000000000000:=fun k=>Io q1.2.1 q2
 have hfin:∀ k,k = l.length → CE l = M4 (l.length * C8 (l.take k) (fun r=>r.getD 0 0 * r.getD 0 0) - C8 (l.take k) (fun r=>r.getD 0 0) * C8 (l.take k) fun r=>r.getD 0 0) l.length:=fun k hk=>by subst hk;rw [List.take_length];rfl
 have hsq:∀ k, -40000000000000000 ≤ C8 (l.take k) (fun r=>r.getD 0 0) * C8 (l.take k) (fun r=>r.getD 0 0) ∧ C8 (l.take k) (fun r=>r.getD 0 0) * C8 (l.take k) (fun r=>r.getD 0 0) ≤ 40000000000000000:=fun k=>by
  have h:=hb1 k
  generalize C8 (l.take k) (fun r=>r.getD 0 0) = s at *
  have h3:(s * s).natAbs ≤ 200000000 * 200000000:=by
   rw [Int.natAbs_mul]
   exact Nat.mul_le_mul (by omega) (by omega)
  omega
 have hnq:∀ k, -40000000000000000 ≤ (l.length:Int) * C8 (l.take k) (fun r=>r.getD 0 0 * r.getD 0 0) ∧ (l.length:Int) * C8 (l.take k) (fun r=>r.getD 0 0 * r.getD 0 0) ≤ 40000000000000000:=fun k=>by
  have h:=hb2 k
  generalize C8 (l.take k) (fun r=>r.getD 0 0 * r.getD 0 0) = s at *
  have h3:((l.length:Int) * s).natAbs ≤ 200 * 200000000000000:=by
   rw [Int.natAbs_mul]
   exact Nat.mul_le_mul (by omega) (by omega)
  omega
 have ho:∀ k,B5 Tryd.prog 49 [.i (l.length * C8 (l.take k) (fun r=>r.getD 0 0 * r.getD 0 0) - C8 (l.take k) (fun r=>r.getD 0 0) * C8 (l.take k) fun r=>r.getD 0 0), .i l.length] (CD (M4 (l.length * C8 (l.take k) (fun r=>r.getD 0 0 * r.getD 0 0) - C8 (l.take k) (fun r=>r.getD 0 0) * C8 (l.take k) fun r=>r.getD 0 0) l.length)):=fun k=>On _ _ (by have:=hsq k;have:=hnq k;omega) (by omega)
 cases o with
 | none =>
   refine D1 Tryd.func28 43 fun hrd E h0=>?_
   clear hrd
   repeat' ((first|refine A5 ?_|refine S1 ?_|refine Z1 ?_|refine Z2 ?_|(refine And.intro ?_ ?_<;>intro h<;>try first|(exfalso;omega)|exact absurd rfl h)|refine Z3 ?_|refine Z4 ?_|intro el hel hbB|intro el hel|intro ex|refine Z5 ?_|(refine B0 ?_ ?_;exact ⟨by kernel_rfl,by decide⟩)|refine A9 ?_ ?_|exact A8|refine A7 ?_ ?_|exact A6|(refine A3 ?_ ?_ ?_;kernel_rfl;kernel_rfl)) <;> (try (conv=>whnf)))
   all_goals first
    | (exfalso;omega)
    | skip
   refine D7 (ι:=Nat) (fun k=>⟨[(2, .ref 0 0),(4, .i l.length),(5, .i (C8 (l.take k) fun r=>r.getD 0 0)),(6, .i (C8 (l.take k) fun r=>r.getD 0 0 * r.getD 0 0)),(11,B7 l),(12, .i l.length),(13, .i k)],1,[(0,some (.box [.i 0, .i 0]))]⟩) (fun k=>k ≤ l.length) (fun k=>l.length - k) 0 (Nat.zero_le _)
    (B4 h0 rfl ⟨rfl,rfl,rfl,rfl,rfl,rfl,rfl,trivial⟩ ⟨rfl,trivial⟩ rfl rfl rfl) (fun k hk=>?_)
   have h1:=hb1 k
   have h2:=hb2 k
   by_cases hkl:k < l.length
   ·obtain ⟨r,hr⟩:∃ r,l[k]? = some r:=⟨_,List.getElem?_eq_getElem hkl⟩
    have hr2:l[((k:Nat):Int).toNat]? = some r:=hr
    obtain ⟨y,hy0,hyg,hyb⟩:=hy r (List.mem_of_getElem? hr)
    have hy02:r[((0:Int)).toNat]? = some y:=hy0
    have t1:=O9 hr fun r=>r.getD 0 0
    have t2:=O9 hr fun r=>r.getD 0 0 * r.getD 0 0
    rw [hyg] at t1 t2
    have hm:=p6 hyb hyb
    repeat' ((first | (refine B3 (x:=r) hr2 (by omega) ?_) | (refine B3 (x:=y) hy02 (by omega) ?_) | (refine M3 ?_ ?_;kernel_rfl) |refine A5 ?_|refine S1 ?_|refine Z1 ?_|refine Z2 ?_|(refine And.intro ?_ ?_<;>intro h<;>try first|(exfalso;omega)|exact absurd rfl h)|refine Z3 ?_|refine Z4 ?_|intro el hel hbB|intro el hel|intro ex|refine Z5 ?_|(refine B0 ?_ ?_;exact ⟨by kernel_rfl,by decide⟩)|refine A9 ?_ ?_|exact A8|refine A7 ?_ ?_|exact A6|(refine A3 ?_ ?_ ?_;kernel_rfl;kernel_rfl)) <;> (try (conv=>whnf)))
    all_goals first
     | (exfalso;omega)
     | exact ⟨k + 1,by omega,by omega,B4 h0 rfl ⟨rfl,rfl,congrArg (fun z=>some (AV.i z)) t1.symm,congrArg (fun z=>some (AV.i z)) t2.symm,rfl,rfl,rfl,trivial⟩ ⟨rfl,trivial⟩ rfl rfl rfl⟩
   ·have hof:=ho k
    rw [hfin k (by omega)] at hT
    rw [hT] at hof
    have h3:=hsq k
    have h4:=hnq k
    clear ho hfin hsq hnq hb1 hb2 hT
    generalize C8 (l.take k) (fun r=>r.getD 0 0 * r.getD 0 0) = Q at *
    generalize C8 (l.take k) (fun r=>r.getD 0 0) = S at *
    repeat' ((first | refine A4 hof ?_ |refine A5 ?_|refine S1 ?_|refine Z1 ?_|refine Z2 ?_|(refine And.intro ?_ ?_<;>intro h<;>try first|(exfalso;omega)|exact absurd rfl h)|refine Z3 ?_|refine Z4 ?_|intro el hel hbB|intro el hel|intro ex|refine Z5 ?_|(refine B0 ?_ ?_;exact ⟨by kernel_rfl,by decide⟩)|refine A9 ?_ ?_|exact A8|refine A7 ?_ ?_|exact A6|(refine A3 ?_ ?_ ?_;kernel_rfl;kernel_rfl)) <;> (try (conv=>whnf)))
    all_goals first
     | (exfalso;omega)
     | exact E6 rfl rfl rfl (.refl _) rfl (.refl _) rfl
 | some p =>
   obtain ⟨a,b⟩:=p
   refine D1 Tryd.func28 43 fun hrd E h0=>?_
   clear hrd
   repeat' ((first|refine A5 ?_|refine S1 ?_|refine Z1 ?_|refine Z2 ?_|(refine And.intro ?_ ?_<;>intro h<;>try first|(exfalso;omega)|exact absurd rfl h)|refine Z3 ?_|refine Z4 ?_|intro el hel hbB|intro el hel|intro ex|refine Z5 ?_|(refine B0 ?_ ?_;exact ⟨by kernel_rfl,by decide⟩)|refine A9 ?_ ?_|exact A8|refine A7 ?_ ?_|exact A6|(refine A3 ?_ ?_ ?_;kernel_rfl;kernel_rfl)) <;> (try (conv=>whnf)))
   all_goals first
    | (exfalso;omega)
    | skip
   refine D7 (ι:=Nat) (fun k=>⟨[(2, .ref 0 0),(4, .i l.length),(5, .i (C8 (l.take k) fun r=>r.getD 0 0)),(6, .i (C8 (l.take k) fun r=>r.getD 0 0 * r.getD 0 0)),(11,B7 l),(12, .i l.length),(13, .i k)],1,[(0,some (.box [.i 0, .i 0]))]⟩) (fun k=>k ≤ l.length) (fun k=>l.length - k) 0 (Nat.zero_le _)
    (B4 h0 rfl ⟨rfl,rfl,rfl,rfl,rfl,rfl,rfl,trivial⟩ ⟨rfl,trivial⟩ rfl rfl rfl) (fun k hk=>?_)
   have h1:=hb1 k
   have h2:=hb2 k
   by_cases hkl:k < l.length
   ·obtain ⟨r,hr⟩:∃ r,l[k]? = some r:=⟨_,List.getElem?_eq_getElem hkl⟩
    have hr2:l[((k:Nat):Int).toNat]? = some r:=hr
    obtain ⟨y,hy0,hyg,hyb⟩:=hy r (List.mem_of_getElem? hr)
    have hy02:r[((0:Int)).toNat]? = some y:=hy0
    have t1:=O9 hr fun r=>r.getD 0 0
    have t2:=O9 hr fun r=>r.getD 0 0 * r.getD 0 0
    rw [hyg] at t1 t2
    have hm:=p6 hyb hyb
    repeat' ((first | (refine B3 (x:=r) hr2 (by omega) ?_) | (refine B3 (x:=y) hy02 (by omega) ?_) | (refine M3 ?_ ?_;kernel_rfl) |refine A5 ?_|refine S1 ?_|refine Z1 ?_|refine Z2 ?_|(refine And.intro ?_ ?_<;>intro h<;>try first|(exfalso;omega)|exact absurd rfl h)|refine Z3 ?_|refine Z4 ?_|intro el hel hbB|intro el hel|intro ex|refine Z5 ?_|(refine B0 ?_ ?_;exact ⟨by kernel_rfl,by decide⟩)|refine A9 ?_ ?_|exact A8|refine A7 ?_ ?_|exact A6|(refine A3 ?_ ?_ ?_;kernel_rfl;kernel_rfl)) <;> (try (conv=>whnf)))
    all_goals first
     | (exfalso;omega)
     | exact ⟨k + 1,by omega,by omega,B4 h0 rfl ⟨rfl,rfl,congrArg (fun z=>some (AV.i z)) t1.symm,congrArg (fun z=>some (AV.i z)) t2.symm,rfl,rfl,rfl,trivial⟩ ⟨rfl,trivial⟩ rfl rfl rfl⟩
   ·have hof:=ho k
    rw [hfin k (by omega)] at hT
    rw [hT] at hof
    have h3:=hsq k
    have h4:=hnq k
    clear ho hfin hsq hnq hb1 hb2 hT
    generalize C8 (l.take k) (fun r=>r.getD 0 0 * r.getD 0 0) = Q at *
    generalize C8 (l.take k) (fun r=>r.getD 0 0) = S at *
    repeat' ((first | refine A4 hof ?_ |refine A5 ?_|refine S1 ?_|refine Z1 ?_|refine Z2 ?_|(refine And.intro ?_ ?_<;>intro h<;>try first|(exfalso;omega)|exact absurd rfl h)|refine Z3 ?_|refine Z4 ?_|intro el hel hbB|intro el hel|intro ex|refine Z5 ?_|(refine B0 ?_ ?_;exact ⟨by kernel_rfl,by decide⟩)|refine A9 ?_ ?_|exact A8|refine A7 ?_ ?_|exact A6|(refine A3 ?_ ?_ ?_;kernel_rfl;kernel_rfl)) <;> (try (conv=>whnf)))
    all_goals first
     | (exfalso;omega)
     | exact E6 rfl rfl rfl (.refl _) rfl (.refl _) rfl
theorem Ju (l:List (List Int)) (hx:P6 l = true):B5 Tryd.prog 28 [B7 l] (CD (CE l)):=LM l hx _ rfl
end Go.Proofs.YtbhegmcbpolemaaDoor

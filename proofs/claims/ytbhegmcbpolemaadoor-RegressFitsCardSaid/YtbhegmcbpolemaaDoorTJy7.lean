/- The reference's sums of products. -/
import Derived.Test.YtbhegmcbpolemaaDoorTJm4
import Derived.Test.YtbhegmcbpolemaaDoorTJw2
import Derived.Test.YtbhegmcbpolemaaDoorTJw4
set_option linter.unusedVariables false
set_option linter.unnecessarySimpa false
set_option linter.unusedSimpArgs false
namespace Go.Proofs.YtbhegmcbpolemaaDoor
open Go Go.Av
attribute [local irreducible] E4 B6 F1 E7 DQ F6 F9 St.le B5 D4
set_option maxRecDepth 100000
def N3 (l:List (List Int)) (a b k j:Nat):Int:=if j < b then C8 l (fun r=>r.getD a 0 * r.getD j 0) else if j = b then C8 (l.take k) (fun r=>r.getD a 0 * r.getD j 0) else 0
theorem Qs (l:List (List Int)) (a n:Nat):List.replicate n [AV.i 0] = (E5 n (N3 l a 0 0)).map C3:=by
 have e:E5 n (N3 l a 0 0) = E5 n fun _=>0:=P1 fun j _=>by
  unfold N3
  rw [if_neg (Nat.not_lt_zero _),List.take_zero]
  split <;> rfl
 have:E5 n (N3 l a 0 0) = List.replicate n 0:=by
  rw [e];unfold E5;simp [List.map_const']
 rw [this,List.map_replicate]
theorem NO (l:List (List Int)) (a b n:Nat):E5 n (N3 l a b l.length) = E5 n (N3 l a (b + 1) 0):=P1 fun j _=>by
 unfold N3
 rw [List.take_length,List.take_zero]
 by_cases h1:j < b
 ·rw [if_pos h1,if_pos (by omega)]
 ·rw [if_neg h1]
  by_cases h2:j = b
  ·rw [if_pos h2,if_pos (by omega)]
  ·rw [if_neg h2,if_neg (by omega)]
   split <;> rfl
theorem NP {l:List (List Int)} {a b k n:Nat}:((E5 n (N3 l a b k)).map C3).set b (C3 (N3 l a b (k + 1) b)) = (E5 n (N3 l a b (k + 1))).map C3:=by
 rw [← List.map_set]
 congr 1
 exact x9 (f:=N3 l a b k) (g:=N3 l a b (k + 1)) fun j _ hne=>by
  unfold N3
  by_cases h1:j < b
  ·rw [if_pos h1,if_pos h1]
  ·rw [if_neg h1,if_neg h1,if_neg hne,if_neg hne]
theorem PC (l:List (List Int)) (a n:Nat):E5 n (N3 l a n 0) = (List.range n).map fun j=>C8 l fun r=>r.getD a 0 * r.getD j 0:=P1 fun j hj=>by
 unfold N3;rw [if_pos hj]
theorem QH {l:List (List Int)} {a b k n:Nat} (hl:l.length ≤ 200) (hr:∀ r ∈ l,r.length = n ∧ ∀ x ∈ r, -1000000 ≤ x ∧ x ≤ 1000000):-200000000000000 ≤ N3 l a b k b ∧ N3 l a b k b ≤ 200000000000000:=by
 have h1:=p5 (l:=l.take k) (f:=fun r=>r.getD a 0 * r.getD b 0) (B:=1000000000000) fun r hr2=>by
  have h3:=(hr r (List.mem_of_mem_take hr2)).2
  have:=e9 (A:=1000000) (B:=1000000) (EX (by decide) h3 a) (EX (by decide) h3 b)
  omega
 have h2:(l.take k).length ≤ 200:=by rw [List.length_take];omega
 unfold N3
 rw [if_neg (Nat.lt_irrefl b),if_pos rfl]
 omega
theorem HZ {l:List (List Int)} (h:¬ (1 ≤ l.length ∧ l.length ≤ 200 ∧ 1 ≤ H8 l ∧ H8 l ≤ 5)):P6 l = false:=by
 cases e:P6 l with
 | false=>rfl
 | true=>exact absurd ((P7 l).1 e).1 h
theorem Ha {l:List (List Int)} {r:List Int} (hr:r ∈ l) (h:¬ (r.length = H8 l ∧ ∀ x ∈ r, -1000000 ≤ x ∧ x ≤ 1000000)):P6 l = false:=by
 cases e:P6 l with
 | false=>rfl
 | true=>exact absurd (((P7 l).1 e).2 r hr) h
set_option maxHeartbeats 32000000 in
theorem CI (l:List (List Int)) (R:AV) (hcR:H2 R = true) (g1:P6 l = false → R = HV ∨ R = .sl 1 []) (g2:P6 l = true → R = B7 (G9 l (H8 l))):B5 Tryd.prog 16 [B7 l] R:=by
 refine D1 Tryd.func16 126 (fun hrd E h0=>?_) (hcl:=hcR)
 have hlen:l.length ≤ 9223372036854775807:=by
  have:=(hrd (B7 l) (by simp)).sl
  simpa using this
 clear hrd
 by_cases hl:1 ≤ l.length ∧ l.length ≤ 200
 rotate_left
 ·rcases g1 (HZ fun h=>hl ⟨h.1,h.2.1⟩) with rfl | rfl
  all_goals clear g1 g2
  all_goals repeat' ((first|refine A5 ?_|refine S1 ?_|refine Z1 ?_|refine Z2 ?_|(refine And.intro ?_ ?_<;>intro h<;>try first|(exfalso;omega)|exact absurd rfl h)|refine Z3 ?_|refine Z4 ?_|intro el hel hbB|intro el hel|intro ex|refine Z5 ?_|(refine B0 ?_ ?_;exact ⟨by kernel_rfl,by decide⟩)|refine A9 ?_ ?_|exact A8|refine A7 ?_ ?_|exact A6|(refine A3 ?_ ?_ ?_;kernel_rfl;kernel_rfl)) <;> (try (conv=>whnf)))
  all_goals first
   | (exfalso;omega)
   | exact B9 rfl rfl
   | exact AM rfl rfl
 obtain ⟨r0,hr0⟩:∃ r,l[0]? = some r:=⟨_,List.getElem?_eq_getElem (by omega)⟩
 have hr00:l[((0:Int)).toNat]? = some r0:=hr0
 have hw:=X6 hr0
 by_cases hw5:1 ≤ r0.length ∧ r0.length ≤ 5
 rotate_left
 ·rcases g1 (HZ fun h=>hw5 (by rw [← hw];exact h.2.2)) with rfl | rfl
  all_goals clear g1 g2
  all_goals repeat' ((first | (refine B3 (x:=r0) hr00 (by omega) ?_) |refine A5 ?_|refine S1 ?_|refine Z1 ?_|refine Z2 ?_|(refine And.intro ?_ ?_<;>intro h<;>try first|(exfalso;omega)|exact absurd rfl h)|refine Z3 ?_|refine Z4 ?_|intro el hel hbB|intro el hel|intro ex|refine Z5 ?_|(refine B0 ?_ ?_;exact ⟨by kernel_rfl,by decide⟩)|refine A9 ?_ ?_|exact A8|refine A7 ?_ ?_|exact A6|(refine A3 ?_ ?_ ?_;kernel_rfl;kernel_rfl)) <;> (try (conv=>whnf)))
  all_goals first
   | (exfalso;omega)
   | exact B9 rfl rfl
   | exact AM rfl rfl
 obtain ⟨n,hn⟩:∃ n,r0.length = n:=⟨_,rfl⟩
 repeat' ((first | (refine B3 (x:=r0) hr00 (by omega) ?_) |refine A5 ?_|refine S1 ?_|refine Z1 ?_|refine Z2 ?_|(refine And.intro ?_ ?_<;>intro h<;>try first|(exfalso;omega)|exact absurd rfl h)|refine Z3 ?_|refine Z4 ?_|intro el hel hbB|intro el hel|intro ex|refine Z5 ?_|(refine B0 ?_ ?_;exact ⟨by kernel_rfl,by decide⟩)|refine A9 ?_ ?_|exact A8|refine A7 ?_ ?_|exact A6|(refine A3 ?_ ?_ ?_;kernel_rfl;kernel_rfl)) <;> (try (conv=>whnf)))
 all_goals first
  | (exfalso;omega)
  | skip
 refine D7 (ι:=Nat) (fun i=>⟨[(0,B7 l),(3, .i i)],0,[]⟩) (fun i=>i ≤ l.length ∧ ∀ j r,j < i → l[j]? = some r → r.length = n ∧ ∀ x ∈ r, -1000000 ≤ x ∧ x ≤ 1000000) (fun i=>l.length - i) 0 ⟨Nat.zero_le _,fun j r h=>absurd h (Nat.not_lt_zero _)⟩
  (B4 h0 rfl ⟨rfl,rfl,trivial⟩ trivial rfl rfl rfl) (fun i hI=>?_)
 obtain ⟨hi,hI⟩:=hI
 by_cases hin:i < l.length
 ·obtain ⟨r,hr⟩:∃ r,l[i]? = some r:=⟨_,List.getElem?_eq_getElem hin⟩
  have hr2:l[((i:Nat):Int).toNat]? = some r:=hr
  by_cases hrl:r.length = n
  rotate_left
  ·rcases g1 (Ha (List.mem_of_getElem? hr) fun h=>hrl (by rw [h.1,hw,hn])) with rfl | rfl
   all_goals clear g1 g2 hI
   all_goals repeat' ((first | (refine B3 (x:=r) hr2 (by omega) ?_) | (refine B3 (x:=r0) hr00 (by omega) ?_) | (refine M3 ?_ ?_;kernel_rfl) |refine A5 ?_|refine S1 ?_|refine Z1 ?_|refine Z2 ?_|(refine And.intro ?_ ?_<;>intro h<;>try first|(exfalso;omega)|exact absurd rfl h)|refine Z3 ?_|refine Z4 ?_|intro el hel hbB|intro el hel|intro ex|refine Z5 ?_|(refine B0 ?_ ?_;exact ⟨by kernel_rfl,by decide⟩)|refine A9 ?_ ?_|exact A8|refine A7 ?_ ?_|exact A6|(refine A3 ?_ ?_ ?_;kernel_rfl;kernel_rfl)) <;> (try (conv=>whnf)))
   all_goals first
    | (exfalso;omega)
    | exact B9 rfl rfl
    | exact AM rfl rfl
  repeat' ((first | (refine B3 (x:=r) hr2 (by omega) ?_) | (refine B3 (x:=r0) hr00 (by omega) ?_) | (refine M3 ?_ ?_;kernel_rfl) |refine A5 ?_|refine S1 ?_|refine Z1 ?_|refine Z2 ?_|(refine And.intro ?_ ?_<;>intro h<;>try first|(exfalso;omega)|exact absurd rfl h)|refine Z3 ?_|refine Z4 ?_|intro el hel hbB|intro el hel|intro ex|refine Z5 ?_|(refine B0 ?_ ?_;exact ⟨by kernel_rfl,by decide⟩)|refine A9 ?_ ?_|exact A8|refine A7 ?_ ?_|exact A6|(refine A3 ?_ ?_ ?_;kernel_rfl;kernel_rfl)) <;> (try (conv=>whnf)))
  all_goals first
   | (exfalso;omega)
   | skip
  refine D7 (ι:=Nat) (fun k=>⟨[(0,B7 l),(3, .i i),(4, .i k)],0,[]⟩) (fun k=>k ≤ n ∧ ∀ j x,j < k → r[j]? = some x → -1000000 ≤ x ∧ x ≤ 1000000) (fun k=>n - k) 0 ⟨Nat.zero_le _,fun j r h=>absurd h (Nat.not_lt_zero _)⟩
   (B4 h0 rfl ⟨rfl,rfl,rfl,trivial⟩ trivial rfl rfl rfl) (fun k hJ=>?_)
  obtain ⟨hk,hJ⟩:=hJ
  by_cases hkn:k < n
  ·obtain ⟨x,hx⟩:∃ x,r[k]? = some x:=⟨_,List.getElem?_eq_getElem (by omega)⟩
   have hx2:r[((k:Nat):Int).toNat]? = some x:=hx
   by_cases hxb:-1000000 ≤ x ∧ x ≤ 1000000
   rotate_left
   ·rcases g1 (Ha (List.mem_of_getElem? hr) fun h=>hxb (h.2 x (List.mem_of_getElem? hx))) with rfl | rfl
    all_goals clear g1 g2 hI hJ
    all_goals repeat' ((first | (refine B3 (x:=r) hr2 (by omega) ?_) | (refine B3 (x:=x) hx2 (by omega) ?_) | (refine M3 ?_ ?_;kernel_rfl) |refine A5 ?_|refine S1 ?_|refine Z1 ?_|refine Z2 ?_|(refine And.intro ?_ ?_<;>intro h<;>try first|(exfalso;omega)|exact absurd rfl h)|refine Z3 ?_|refine Z4 ?_|intro el hel hbB|intro el hel|intro ex|refine Z5 ?_|(refine B0 ?_ ?_;exact ⟨by kernel_rfl,by decide⟩)|refine A9 ?_ ?_|exact A8|refine A7 ?_ ?_|exact A6|(refine A3 ?_ ?_ ?_;kernel_rfl;kernel_rfl)) <;> (try (conv=>whnf)))
    all_goals first
     | (exfalso;omega)
     | exact B9 rfl rfl
     | exact AM rfl rfl
   ·repeat' ((first | (refine B3 (x:=r) hr2 (by omega) ?_) | (refine B3 (x:=x) hx2 (by omega) ?_) | (refine M3 ?_ ?_;kernel_rfl) |refine A5 ?_|refine S1 ?_|refine Z1 ?_|refine Z2 ?_|(refine And.intro ?_ ?_<;>intro h<;>try first|(exfalso;omega)|exact absurd rfl h)|refine Z3 ?_|refine Z4 ?_|intro el hel hbB|intro el hel|intro ex|refine Z5 ?_|(refine B0 ?_ ?_;exact ⟨by kernel_rfl,by decide⟩)|refine A9 ?_ ?_|exact A8|refine A7 ?_ ?_|exact A6|(refine A3 ?_ ?_ ?_;kernel_rfl;kernel_rfl)) <;> (try (conv=>whnf)))
    all_goals first
     | (exfalso;omega)
     | exact ⟨k + 1,⟨by omega,fun j q hj hq=>by
       by_cases e:j = k
       ·subst e;rw [hx] at hq;cases hq;omega
       ·exact hJ j q (by omega) hq⟩,by omega,B4 h0 rfl ⟨rfl,rfl,rfl,trivial⟩ trivial rfl rfl rfl⟩
  ·have hkk:k = n:=by omega
   subst hkk
   repeat' ((first | (refine B3 (x:=r) hr2 (by omega) ?_) |refine A5 ?_|refine S1 ?_|refine Z1 ?_|refine Z2 ?_|(refine And.intro ?_ ?_<;>intro h<;>try first|(exfalso;omega)|exact absurd rfl h)|refine Z3 ?_|refine Z4 ?_|intro el hel hbB|intro el hel|intro ex|refine Z5 ?_|(refine B0 ?_ ?_;exact ⟨by kernel_rfl,by decide⟩)|refine A9 ?_ ?_|exact A8|refine A7 ?_ ?_|exact A6|(refine A3 ?_ ?_ ?_;kernel_rfl;kernel_rfl)) <;> (try (conv=>whnf)))
   all_goals first
    | (exfalso;omega)
    | exact ⟨i + 1,⟨by omega,fun j q hj hq=>by
      by_cases e:j = i
      ·subst e;rw [hr] at hq;cases hq
       refine ⟨hrl,fun x hxm=>?_⟩
       obtain ⟨m,hm⟩:=List.mem_iff_getElem?.1 hxm
       exact hJ m x (by have:=(List.getElem?_eq_some_iff.1 hm).1;omega) hm
      ·exact hI j q (by omega) hq⟩,by omega,B4 h0 rfl ⟨rfl,rfl,trivial⟩ trivial rfl rfl rfl⟩
 have hii:i = l.length:=by omega
 subst hii
 have hall:∀ r ∈ l,r.length = n ∧ ∀ x ∈ r, -1000000 ≤ x ∧ x ≤ 1000000:=fun r h=>by
  obtain ⟨j,hj⟩:=List.mem_iff_getElem?.1 h
  exact hI j r (List.getElem?_eq_some_iff.1 hj).1 hj
 clear hI
 have hR:=g2 ((P7 l).2 ⟨⟨hl.1,hl.2,by omega,by omega⟩,fun r h=>by rw [hw,hn];exact hall r h⟩)
 rw [hw,hn] at hR
 clear g1 g2
 have hG:∀ a,a < n → (G9 l n)[a]? = some (E5 n (N3 l a n 0)):=fun a ha=>by
  unfold G9
  rw [List.getElem?_map,List.getElem?_range ha,Option.map_some,PC]
 have hGl:=Fm l n
 generalize G9 l n = G at *
 subst hR
 repeat' ((first|refine A5 ?_|refine S1 ?_|refine Z1 ?_|refine Z2 ?_|(refine And.intro ?_ ?_<;>intro h<;>try first|(exfalso;omega)|exact absurd rfl h)|refine Z3 ?_|refine Z4 ?_|intro el hel hbB|intro el hel|intro ex|refine Z5 ?_|(refine B0 ?_ ?_;exact ⟨by kernel_rfl,by decide⟩)|refine A9 ?_ ?_|exact A8|refine A7 ?_ ?_|exact A6|(refine A3 ?_ ?_ ?_;kernel_rfl;kernel_rfl)) <;> (try (conv=>whnf)))
 all_goals first
  | (exfalso;omega)
  | skip
 refine D7 (ι:=Nat) (fun a=>⟨[(0,B7 l),(5, .row 0 0 a),(6, .i a)],1,[(0,some (.row 27 1 0 ((G.take a).map fun r=>[B8 r])))]⟩) (fun a=>a ≤ n) (fun a=>n - a) 0 (Nat.zero_le _)
  (E0 (N0 (d:=5) (e:=27) (sz:=1) rfl) (B4 h0 rfl ⟨rfl,rfl,rfl,trivial⟩ ⟨⟨_,rfl⟩,trivial⟩ rfl rfl rfl)) (fun a ha=>?_)
 by_cases han:a < n
 rotate_left
 ·have haa:a = n:=by omega
  subst haa
  have he:((G.take a).map fun r=>[B8 r]) = G.map fun r=>[B8 r]:=by rw [← hGl,List.take_length]
  repeat' ((first | (refine B3 (x:=r0) hr00 (by omega) ?_) |refine A5 ?_|refine S1 ?_|refine Z1 ?_|refine Z2 ?_|(refine And.intro ?_ ?_<;>intro h<;>try first|(exfalso;omega)|exact absurd rfl h)|refine Z3 ?_|refine Z4 ?_|intro el hel hbB|intro el hel|intro ex|refine Z5 ?_|(refine B0 ?_ ?_;exact ⟨by kernel_rfl,by decide⟩)|refine A9 ?_ ?_|exact A8|refine A7 ?_ ?_|exact A6|(refine A3 ?_ ?_ ?_;kernel_rfl;kernel_rfl)) <;> (try (conv=>whnf)))
  all_goals first
   | (exfalso;omega)
   | exact B9 rfl (congrArg (AV.sl 1) he)
 have hGa:=hG a han
 have hz0:=Qs l a n
 repeat' ((first | (refine B3 (x:=r0) hr00 (by omega) ?_) |refine A5 ?_|refine S1 ?_|refine Z1 ?_|refine Z2 ?_|(refine And.intro ?_ ?_<;>intro h<;>try first|(exfalso;omega)|exact absurd rfl h)|refine Z3 ?_|refine Z4 ?_|intro el hel hbB|intro el hel|intro ex|refine Z5 ?_|(refine B0 ?_ ?_;exact ⟨by kernel_rfl,by decide⟩)|refine A9 ?_ ?_|exact A8|refine A7 ?_ ?_|exact A6|(refine A3 ?_ ?_ ?_;kernel_rfl;kernel_rfl)) <;> (try (conv=>whnf)))
 all_goals first
  | (exfalso;omega)
  | skip
 refine D7 (ι:=Nat) (fun b=>⟨[(0,B7 l),(5, .row 0 0 a),(6, .i a),(7, .row 1 0 n),(8, .i b)],2,[(0,some (.row 27 1 0 ((G.take a).map fun r=>[B8 r]))),(1,some (.row 3 1 0 ((E5 n (N3 l a b 0)).map C3)))]⟩) (fun b=>b ≤ n) (fun b=>n - b) 0 (Nat.zero_le _)
  (B4 h0 rfl ⟨rfl,rfl,rfl,congrArg (fun z=>some (AV.row 1 0 z)) (by simp [hn]),rfl,trivial⟩ ⟨⟨_,rfl⟩,⟨_,congrArg (D9.row 3 1 _) (by rw [← hz0, ← hn];rfl)⟩,trivial⟩ rfl rfl rfl) (fun b hb=>?_)
 by_cases hbn:b < n
 rotate_left
 ·have hbb:b = n:=by omega
  subst hbb
  have hml:((E5 b (N3 l a b 0)).map C3).length = b:=by rw [List.length_map,U8]
  have hX:((G.take (a + 1)).map fun r=>[B8 r]) = ((G.take a).map fun r=>[B8 r]) ++ [[.sl 1 ((E5 b (N3 l a b 0)).map C3)]]:=by
   rw [List.take_add_one,hGa,Option.toList_some,List.map_append];rfl
  repeat' ((first | refine X0 (T:=25) rfl ?_ |refine A5 ?_|refine S1 ?_|refine Z1 ?_|refine Z2 ?_|(refine And.intro ?_ ?_<;>intro h<;>try first|(exfalso;omega)|exact absurd rfl h)|refine Z3 ?_|refine Z4 ?_|intro el hel hbB|intro el hel|intro ex|refine Z5 ?_|(refine B0 ?_ ?_;exact ⟨by kernel_rfl,by decide⟩)|refine A9 ?_ ?_|exact A8|refine A7 ?_ ?_|exact A6|(refine A3 ?_ ?_ ?_;kernel_rfl;kernel_rfl)) <;> (try (conv=>whnf)))
  all_goals first
   | (exfalso;omega)
   | exact ⟨a + 1,by omega,by omega,B4 h0 rfl ⟨rfl,rfl,rfl,trivial⟩ ⟨⟨_,congrArg (D9.row 27 1 _) hX⟩,trivial⟩ rfl rfl rfl⟩
 have hml0:((E5 n (N3 l a b 0)).map C3).length = n:=by rw [List.length_map,U8]
 repeat' ((first|refine A5 ?_|refine S1 ?_|refine Z1 ?_|refine Z2 ?_|(refine And.intro ?_ ?_<;>intro h<;>try first|(exfalso;omega)|exact absurd rfl h)|refine Z3 ?_|refine Z4 ?_|intro el hel hbB|intro el hel|intro ex|refine Z5 ?_|(refine B0 ?_ ?_;exact ⟨by kernel_rfl,by decide⟩)|refine A9 ?_ ?_|exact A8|refine A7 ?_ ?_|exact A6|(refine A3 ?_ ?_ ?_;kernel_rfl;kernel_rfl)) <;> (try (conv=>whnf)))
 all_goals first
  | (exfalso;omega)
  | skip
 refine D7 (ι:=Nat) (fun k=>⟨[(0,B7 l),(5, .row 0 0 a),(6, .i a),(7, .row 1 0 n),(8, .i b),(9, .i k)],2,[(0,some (.row 27 1 0 ((G.take a).map fun r=>[B8 r]))),(1,some (.row 3 1 0 ((E5 n (N3 l a b k)).map C3)))]⟩) (fun k=>k ≤ l.length) (fun k=>l.length - k) 0 (Nat.zero_le _)
  (B4 h0 rfl ⟨rfl,rfl,rfl,rfl,rfl,rfl,trivial⟩ ⟨⟨_,rfl⟩,⟨_,rfl⟩,trivial⟩ rfl rfl rfl) (fun k hk=>?_)
 by_cases hkl:k < l.length
 rotate_left
 ·have hkk:k = l.length:=by omega
  subst hkk
  rw [NO]
  repeat' ((first|refine A5 ?_|refine S1 ?_|refine Z1 ?_|refine Z2 ?_|(refine And.intro ?_ ?_<;>intro h<;>try first|(exfalso;omega)|exact absurd rfl h)|refine Z3 ?_|refine Z4 ?_|intro el hel hbB|intro el hel|intro ex|refine Z5 ?_|(refine B0 ?_ ?_;exact ⟨by kernel_rfl,by decide⟩)|refine A9 ?_ ?_|exact A8|refine A7 ?_ ?_|exact A6|(refine A3 ?_ ?_ ?_;kernel_rfl;kernel_rfl)) <;> (try (conv=>whnf)))
  all_goals first
   | (exfalso;omega)
   | exact ⟨b + 1,by omega,by omega,B4 h0 rfl ⟨rfl,rfl,rfl,rfl,rfl,trivial⟩ ⟨⟨_,rfl⟩,⟨_,rfl⟩,trivial⟩ rfl rfl rfl⟩
 obtain ⟨r,hr⟩:∃ r,l[k]? = some r:=⟨_,List.getElem?_eq_getElem hkl⟩
 have hr2:l[((k:Nat):Int).toNat]? = some r:=hr
 obtain ⟨hrl,hrb⟩:=hall r (List.mem_of_getElem? hr)
 obtain ⟨x,hx⟩:∃ x,r[a]? = some x:=⟨_,List.getElem?_eq_getElem (by omega)⟩
 obtain ⟨y,hy⟩:∃ x,r[b]? = some x:=⟨_,List.getElem?_eq_getElem (by omega)⟩
 have hx2:r[((a:Nat):Int).toNat]? = some x:=hx
 have hy2:r[((b:Nat):Int).toNat]? = some y:=hy
 have hxg:r.getD a 0 = x:=by rw [List.getD_eq_getElem?_getD,hx];rfl
 have hyg:r.getD b 0 = y:=by rw [List.getD_eq_getElem?_getD,hy];rfl
 have hmb:=e9 (A:=1000000) (B:=1000000) (hrb x (List.mem_of_getElem? hx)) (hrb y (List.mem_of_getElem? hy))
 have hbd:=QH (a:=a) (b:=b) (k:=k) hl.2 hall
 have hnew:N3 l a b (k + 1) b = N3 l a b k b + x * y:=by
  unfold N3
  rw [if_neg (Nat.lt_irrefl b),if_pos rfl,if_neg (Nat.lt_irrefl b),if_pos rfl,O9 hr,hxg,hyg]
 have hwm:IntKind.i64.wrap (x * y) = x * y:=H4 (by omega)
 have hset:=NP (l:=l) (a:=a) (b:=b) (k:=k) (n:=n)
 rw [hnew, ← hwm] at hset
 have hml3:((E5 n (N3 l a b k)).map C3).length = n:=by rw [List.length_map,U8]
 have hcell:((E5 n (N3 l a b k)).map C3)[((((b:Nat):Int).toNat:Nat):Int).toNat]? = some (C3 (N3 l a b k b)):=by rw [Int.toNat_natCast,Int.toNat_natCast,List.getElem?_map,EV _ hbn];rfl
 clear hall hz0 hml0 hG
 repeat' ((first | (refine B3 (x:=r) hr2 (by omega) ?_) | (refine B3 (x:=x) hx2 (by omega) ?_) | (refine B3 (x:=y) hy2 (by omega) ?_) | (refine H9 (x:=C3 (N3 l a b k b)) hcell (by omega) ?_) | (refine l6 (id:=24) ⟨[(0,B7 l),(5, .row 0 0 a),(6, .i a),(7, .row 1 0 n),(8, .i b),(9, .i k)],2,[(0,some (.row 27 1 0 ((G.take a).map fun r=>[B8 r]))),(1,some (.row 3 1 0 ((E5 n (N3 l a b (k + 1))).map C3)))]⟩ ?_ ?_) |refine A5 ?_|refine S1 ?_|refine Z1 ?_|refine Z2 ?_|(refine And.intro ?_ ?_<;>intro h<;>try first|(exfalso;omega)|exact absurd rfl h)|refine Z3 ?_|refine Z4 ?_|intro el hel hbB|intro el hel|intro ex|refine Z5 ?_|(refine B0 ?_ ?_;exact ⟨by kernel_rfl,by decide⟩)|refine A9 ?_ ?_|exact A8|refine A7 ?_ ?_|exact A6|(refine A3 ?_ ?_ ?_;kernel_rfl;kernel_rfl)) <;> (try (conv=>whnf)))
 all_goals first
  | (exfalso;omega)
  | exact B4 h0 rfl ⟨rfl,rfl,rfl,rfl,rfl,rfl,trivial⟩ ⟨⟨_,rfl⟩,⟨_,congrArg (D9.row _ _ _) hset.symm⟩,trivial⟩ rfl rfl rfl
  | exact ⟨k + 1,by omega,by omega,B4 h0 rfl ⟨rfl,rfl,rfl,rfl,rfl,rfl,trivial⟩ ⟨⟨_,rfl⟩,⟨_,rfl⟩,trivial⟩ rfl rfl rfl⟩
end Go.Proofs.YtbhegmcbpolemaaDoor

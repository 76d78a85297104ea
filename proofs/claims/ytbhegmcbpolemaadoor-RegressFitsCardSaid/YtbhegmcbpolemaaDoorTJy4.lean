/- The reference's determinants. -/
import Derived.Test.YtbhegmcbpolemaaDoorTJy3
import Derived.Test.YtbhegmcbpolemaaDoorTJl5
set_option linter.unusedVariables false
set_option linter.unnecessarySimpa false
set_option linter.unusedSimpArgs false
namespace Go.Proofs.YtbhegmcbpolemaaDoor
open Go Go.Av
attribute [local irreducible] E4 B6 F1 E7 DQ F6 F9 St.le B5 D4
set_option maxRecDepth 100000
abbrev R8 (z:Nat):List AV:=[.i z]
abbrev V4 (l:List Nat):AV:=.sl 1 (l.map R8)
set_option maxHeartbeats 4000000 in
theorem He (n:Nat) (hn:n ≤ 1000):B5 Tryd.prog 68 [.i n] (V4 (List.range n)):=by
 refine D1 Tryd.func68 15 fun hrd E h0=>?_
 clear hrd
 repeat' ((first|refine A5 ?_|refine S1 ?_|refine Z1 ?_|refine Z2 ?_|(refine And.intro ?_ ?_<;>intro h<;>try first|(exfalso;omega)|exact absurd rfl h)|refine Z3 ?_|refine Z4 ?_|intro el hel hbB|intro el hel|intro ex|refine Z5 ?_|(refine B0 ?_ ?_;exact ⟨by kernel_rfl,by decide⟩)|refine A9 ?_ ?_|exact A8|refine A7 ?_ ?_|exact A6|(refine A3 ?_ ?_ ?_;kernel_rfl;kernel_rfl)) <;> (try (conv=>whnf)))
 refine D7 (ι:=Nat) (fun k=>⟨[(0, .i n),(3, .row 0 0 k),(4, .i k)],1,[(0,some (.row 3 1 0 ((List.range k).map R8)))]⟩) (fun k=>k ≤ n) (fun k=>n - k) 0 (Nat.zero_le _)
  (E0 (N0 (d:=3) (e:=3) (sz:=1) rfl) (B4 h0 rfl ⟨rfl,rfl,rfl,trivial⟩ ⟨⟨_,rfl⟩,trivial⟩ rfl rfl rfl)) (fun k hk=>?_)
 by_cases hkn:k < n
 ·have hm:(List.range (k + 1)).map R8 = (List.range k).map R8 ++ [[.i k]]:=by rw [List.range_succ,List.map_append];rfl
  repeat' ((first|refine A5 ?_|refine S1 ?_|refine Z1 ?_|refine Z2 ?_|(refine And.intro ?_ ?_<;>intro h<;>try first|(exfalso;omega)|exact absurd rfl h)|refine Z3 ?_|refine Z4 ?_|intro el hel hbB|intro el hel|intro ex|refine Z5 ?_|(refine B0 ?_ ?_;exact ⟨by kernel_rfl,by decide⟩)|refine A9 ?_ ?_|exact A8|refine A7 ?_ ?_|exact A6|(refine A3 ?_ ?_ ?_;kernel_rfl;kernel_rfl)) <;> (try (conv=>whnf)))
  all_goals first
   | (exfalso;omega)
   | exact ⟨k + 1,by omega,by omega,B4 h0 rfl ⟨rfl,rfl,rfl,trivial⟩ ⟨⟨_,congrArg (D9.row 3 1 _) hm⟩,trivial⟩ rfl rfl rfl⟩
 ·have hkk:n = k:=by omega
  subst hkk
  repeat' ((first|refine A5 ?_|refine S1 ?_|refine Z1 ?_|refine Z2 ?_|(refine And.intro ?_ ?_<;>intro h<;>try first|(exfalso;omega)|exact absurd rfl h)|refine Z3 ?_|refine Z4 ?_|intro el hel hbB|intro el hel|intro ex|refine Z5 ?_|(refine B0 ?_ ?_;exact ⟨by kernel_rfl,by decide⟩)|refine A9 ?_ ?_|exact A8|refine A7 ?_ ?_|exact A6|(refine A3 ?_ ?_ ?_;kernel_rfl;kernel_rfl)) <;> (try (conv=>whnf)))
  all_goals first
   | (exfalso;omega)
   | exact B9 rfl rfl
theorem PH (L:List (List AV)) (k:Nat):([] ++ (L.take ((k:Nat):Int).toNat).drop (Int.toNat 0)) ++ (L.take ((L.length:Nat):Int).toNat).drop (((k:Nat):Int) + 1).toNat = L.eraseIdx k:=by
 rw [Int.toNat_natCast,Int.toNat_natCast,List.take_length,show (((k:Nat):Int) + 1).toNat = k + 1 by omega,show Int.toNat 0 = 0 from rfl,List.drop_zero,List.nil_append,PD]
theorem PI (cols:List Nat) (k:Nat):(cols.map R8).eraseIdx k = (cols.eraseIdx k).map R8:=by
 rw [List.eraseIdx_eq_take_drop_succ,List.eraseIdx_eq_take_drop_succ,List.map_append,List.map_take,List.map_drop]
theorem La (k:Nat):(k % 2 = 0 ∧ S2 k = 1) ∨ (k % 2 = 1 ∧ S2 k = -1):=by
 unfold S2
 rcases Nat.mod_two_eq_zero_or_one k with h | h
 ·left;exact ⟨h,if_pos h⟩
 ·right;exact ⟨h,if_neg (by omega)⟩
set_option maxHeartbeats 16000000 in
theorem EZ (M:List (List Int)) (n:Nat) (hM:M.length = n) (hMr:∀ r ∈ M,r.length = n) (hMe:∀ r ∈ M,∀ x ∈ r, -2147483648 ≤ x ∧ x ≤ 2147483648) (hn:n ≤ 5):∀ (rows cols:List Nat),rows.length = cols.length → cols.length ≤ 5 → (∀ r ∈ rows,r < n) → (∀ c ∈ cols,c < n) →
  B5 Tryd.prog 67 [B7 M,V4 rows,V4 cols] (D6 (AH (L2 M) rows cols))
 | [],cols,hl,_,_,_=>by
   have hc:cols = []:=List.length_eq_zero_iff.1 hl.symm
   subst hc
   rw [NQ]
   have c1:=U9 1 (by decide) (by decide)
   refine D1 Tryd.func67 59 (fun hrd E h0=>?_) (hcells:=by intro t T h;cases h;exact ⟨2,inferInstance,fun l h=>by cases h;rfl⟩)
   clear hrd
   repeat' ((first | refine A4 c1 ?_ |refine A5 ?_|refine S1 ?_|refine Z1 ?_|refine Z2 ?_|(refine And.intro ?_ ?_<;>intro h<;>try first|(exfalso;omega)|exact absurd rfl h)|refine Z3 ?_|refine Z4 ?_|intro el hel hbB|intro el hel|intro ex|refine Z5 ?_|(refine B0 ?_ ?_;exact ⟨by kernel_rfl,by decide⟩)|refine A9 ?_ ?_|exact A8|refine A7 ?_ ?_|exact A6|(refine A3 ?_ ?_ ?_;kernel_rfl;kernel_rfl)) <;> (try (conv=>whnf)))
   all_goals first
    | (exfalso;omega)
    | exact F4 rfl rfl rfl
 | r :: rs,cols,hl,h5,hr,hc=>by
   have ih:=EZ M n hM hMr hMe hn rs
   have hcn:cols ≠ []:=by intro h;subst h;cases hl
   rw [LX _ _ _ _ hcn]
   have hrl:(r :: rs).length = cols.length:=hl
   rw [List.length_cons] at hl
   have hr0:(r :: rs)[((0:Int)).toNat]? = some r:=rfl
   obtain ⟨Mr,hMr1⟩:∃ x,M[r]? = some x:=⟨_,List.getElem?_eq_getElem (by have:=hr r (by simp);omega)⟩
   have hMr2:M[((r:Nat):Int).toNat]? = some Mr:=hMr1
   have hrn:=hr r (by simp)
   have hMrl:=hMr Mr (List.mem_of_getElem? hMr1)
   have hMre:=hMe Mr (List.mem_of_getElem? hMr1)
   have hraw:AV.sl 1 ((((r :: rs).map R8).take ((((r :: rs).map R8).length:Nat):Int).toNat).drop (Int.toNat 1)) = V4 rs:=by
    rw [Int.toNat_natCast,List.take_length];rfl
   have hcl:(cols.map R8).length = cols.length:=List.length_map ..
   have hrl2:((r :: rs).map R8).length = cols.length:=by rw [List.length_map];exact hrl
   have hIm:∀ a b,∀ el ∈ List.drop a (List.take b (cols.map R8)),∀ u ∈ el,J8 u:=fun a b el hel u hu=>by
    obtain ⟨x,_,rfl⟩:=List.mem_map.1 (List.mem_of_mem_take (List.mem_of_mem_drop hel))
    rw [List.mem_singleton.1 hu];exact V9 rfl
   have hLe:∀ a b,(List.drop a (List.take b (cols.map R8))).length ≤ 5:=fun a b=>by
    rw [List.length_drop,List.length_take,List.length_map];omega
   have hSz:∀ a b,(0 + (List.drop a (List.take b (cols.map R8))).length) * 8 ≤ 140737488355328 ∧ 0 + (List.drop a (List.take b (cols.map R8))).length ≤ 9223372036854775807:=fun a b=>by
    have:=hLe a b;omega
   have hSz2:∀ a b c d,(0 + (List.drop a (List.take b (cols.map R8))).length + (List.drop c (List.take d (cols.map R8))).length) * 8 ≤ 140737488355328 ∧ 0 + (List.drop a (List.take b (cols.map R8))).length + (List.drop c (List.take d (cols.map R8))).length ≤ 9223372036854775807:=fun a b c d=>by
    have h1:=hLe a b
    have h2:=hLe c d
    omega
   have hz:E8 0 (Ab (L2 M) r rs cols) = 0:=rfl
   refine D1 Tryd.func67 59 (fun hrd E h0=>?_) (hcells:=by intro t T h;cases h;exact ⟨2,inferInstance,fun l h=>by cases h;rfl⟩)
   clear hrd
   repeat' ((first|refine A5 ?_|refine S1 ?_|refine Z1 ?_|refine Z2 ?_|(refine And.intro ?_ ?_<;>intro h<;>try first|(exfalso;omega)|exact absurd rfl h)|refine Z3 ?_|refine Z4 ?_|intro el hel hbB|intro el hel|intro ex|refine Z5 ?_|(refine B0 ?_ ?_;exact ⟨by kernel_rfl,by decide⟩)|refine A9 ?_ ?_|exact A8|refine A7 ?_ ?_|exact A6|(refine A3 ?_ ?_ ?_;kernel_rfl;kernel_rfl)) <;> (try (conv=>whnf)))
   all_goals first
    | (exfalso;omega)
    | skip
   refine D7 (ι:=Nat) (fun k=>⟨[(0,B7 M),(1,V4 (r :: rs)),(2,V4 cols),(6, .ref 0 0),(7, .ref 1 0),(8, .i k)],2,[(0,some (.box [uA 0,uA 0])),(1,some (.box (D3 (E8 k (Ab (L2 M) r rs cols)))))]⟩) (fun k=>k ≤ cols.length) (fun k=>cols.length - k) 0 (Nat.zero_le _)
    (B4 h0 rfl ⟨rfl,rfl,rfl,rfl,rfl,rfl,trivial⟩ ⟨rfl,rfl,trivial⟩ rfl rfl rfl) (fun k hk=>?_)
   by_cases hkc:k < cols.length
   ·obtain ⟨c,hc1⟩:∃ x,cols[k]? = some x:=⟨_,List.getElem?_eq_getElem hkc⟩
    have hc2:cols[((k:Nat):Int).toNat]? = some c:=hc1
    have hcn:=hc c (List.mem_of_getElem? hc1)
    obtain ⟨v,hv1⟩:∃ x,Mr[c]? = some x:=⟨_,List.getElem?_eq_getElem (by omega)⟩
    have hv2:Mr[((c:Nat):Int).toNat]? = some v:=hv1
    have hvb:=hMre v (List.mem_of_getElem? hv1)
    have hel:L2 M r c = v:=LA hMr1 hv1
    have hcg:cols.getD k 0 = c:=by rw [List.getD_eq_getElem?_getD,hc1];rfl
    have hera:=PH (cols.map R8) k
    rw [PI] at hera
    have hel2:(cols.eraseIdx k).length = rs.length:=by rw [List.length_eraseIdx_of_lt hkc];omega
    have ihk:=ih (cols.eraseIdx k) hel2.symm (by omega) (fun x hx=>hr x (by simp [hx])) (fun x hx=>hc x (List.mem_of_mem_eraseIdx hx))
    have hX:E8 (k + 1) (Ab (L2 M) r rs cols) = E8 k (Ab (L2 M) r rs cols) + S2 k * v * AH (L2 M) rs (cols.eraseIdx k):=by
     rw [E8];unfold Ab;rw [hcg,hel]
    generalize AH (L2 M) rs (cols.eraseIdx k) = mn at *
    rw [← hraw] at ihk
    generalize hE:cols.eraseIdx k = E at *
    have d1:=U9 v (by omega) (by omega)
    have d2:=Cw v mn
    have d3:=W1 0 (v * mn)
    have d4:=EY (E8 k (Ab (L2 M) r rs cols)) (v * mn)
    have d5:=EY (E8 k (Ab (L2 M) r rs cols)) (0 - v * mn)
    clear ih hr hc hMr hMe hMre
    rcases La k with ⟨hp,hs⟩ | ⟨hp,hs⟩
    ·rw [hs,Int.one_mul] at hX
     rw [← hX] at d4
     clear d5 d3
     have hmod:((k:Nat):Int).tmod 2 = 0:=by rw [Int.tmod_eq_emod_of_nonneg (by omega)];omega
     generalize hB:Ab (L2 M) r rs cols = B at *
     repeat' ((first | refine T8 (hIm _ _) ?_ | refine T8 (hSz _ _) ?_ | refine T8 (hSz2 _ _ _ _) ?_ | refine A4 d1 ?_ | refine A4 d2 ?_ | refine A4 d4 ?_ | refine A4 ihk ?_ | (refine B3 (x:=r) hr0 (by omega) ?_) | (refine B3 (x:=Mr) hMr2 (by omega) ?_) | (refine B3 (x:=c) hc2 (by omega) ?_) | (refine B3 (x:=v) hv2 (by omega) ?_) | (refine F5 (id:=7) ⟨[(0,B7 M),(1,V4 (r :: rs)),(2,V4 cols),(6, .ref 0 0),(7, .ref 1 0),(8, .i k),(9,V4 E)],3,[(0,some (.box [uA 0,uA 0])),(1,some (.box (D3 (E8 k B))))]⟩ ?_ ?_) | (refine F5 (id:=8) ⟨[(0,B7 M),(1,V4 (r :: rs)),(2,V4 cols),(6, .ref 0 0),(7, .ref 1 0),(8, .i k),(10, .ref 3 0)],4,[(0,some (.box [uA 0,uA 0])),(1,some (.box (D3 (E8 k B)))),(3,some (.box (D3 (v * mn))))]⟩ ?_ ?_) |refine A5 ?_|refine S1 ?_|refine Z1 ?_|refine Z2 ?_|(refine And.intro ?_ ?_<;>intro h<;>try first|(exfalso;omega)|exact absurd rfl h)|refine Z3 ?_|refine Z4 ?_|intro el hel hbB|intro el hel|intro ex|refine Z5 ?_|(refine B0 ?_ ?_;exact ⟨by kernel_rfl,by decide⟩)|refine A9 ?_ ?_|exact A8|refine A7 ?_ ?_|exact A6|(refine A3 ?_ ?_ ?_;kernel_rfl;kernel_rfl)) <;> (try (conv=>whnf)))
     all_goals first
      | (exfalso;omega)
      | exact B4 h0 rfl ⟨rfl,rfl,rfl,rfl,rfl,rfl,congrArg (fun z=>some (AV.sl 1 z)) hera,trivial⟩ ⟨rfl,rfl,trivial⟩ rfl rfl rfl
      | exact B4 h0 rfl ⟨rfl,rfl,rfl,rfl,rfl,rfl,rfl,trivial⟩ ⟨rfl,rfl,rfl,trivial⟩ rfl rfl rfl
      | (subst hB;exact ⟨k + 1,by omega,by omega,B4 h0 rfl ⟨rfl,rfl,rfl,rfl,rfl,rfl,trivial⟩ ⟨rfl,rfl,trivial⟩ rfl rfl rfl⟩)
    ·have hX2:E8 (k + 1) (Ab (L2 M) r rs cols) = E8 k (Ab (L2 M) r rs cols) + (0 - v * mn):=by rw [hX,hs];grind
     rw [← hX2] at d5
     clear d4
     have hmod:((k:Nat):Int).tmod 2 = 1:=by rw [Int.tmod_eq_emod_of_nonneg (by omega)];omega
     generalize hB:Ab (L2 M) r rs cols = B at *
     repeat' ((first | refine T8 (hIm _ _) ?_ | refine T8 (hSz _ _) ?_ | refine T8 (hSz2 _ _ _ _) ?_ | refine A4 d1 ?_ | refine A4 d2 ?_ | refine A4 d3 ?_ | refine A4 d5 ?_ | refine A4 ihk ?_ | (refine B3 (x:=r) hr0 (by omega) ?_) | (refine B3 (x:=Mr) hMr2 (by omega) ?_) | (refine B3 (x:=c) hc2 (by omega) ?_) | (refine B3 (x:=v) hv2 (by omega) ?_) | (refine F5 (id:=7) ⟨[(0,B7 M),(1,V4 (r :: rs)),(2,V4 cols),(6, .ref 0 0),(7, .ref 1 0),(8, .i k),(9,V4 E)],3,[(0,some (.box [uA 0,uA 0])),(1,some (.box (D3 (E8 k B))))]⟩ ?_ ?_) | (refine F5 (id:=8) ⟨[(0,B7 M),(1,V4 (r :: rs)),(2,V4 cols),(6, .ref 0 0),(7, .ref 1 0),(8, .i k),(10, .ref 3 0)],4,[(0,some (.box [uA 0,uA 0])),(1,some (.box (D3 (E8 k B)))),(3,some (.box (D3 (v * mn))))]⟩ ?_ ?_) |refine A5 ?_|refine S1 ?_|refine Z1 ?_|refine Z2 ?_|(refine And.intro ?_ ?_<;>intro h<;>try first|(exfalso;omega)|exact absurd rfl h)|refine Z3 ?_|refine Z4 ?_|intro el hel hbB|intro el hel|intro ex|refine Z5 ?_|(refine B0 ?_ ?_;exact ⟨by kernel_rfl,by decide⟩)|refine A9 ?_ ?_|exact A8|refine A7 ?_ ?_|exact A6|(refine A3 ?_ ?_ ?_;kernel_rfl;kernel_rfl)) <;> (try (conv=>whnf)))
     all_goals first
      | (exfalso;omega)
      | exact B4 h0 rfl ⟨rfl,rfl,rfl,rfl,rfl,rfl,congrArg (fun z=>some (AV.sl 1 z)) hera,trivial⟩ ⟨rfl,rfl,trivial⟩ rfl rfl rfl
      | exact B4 h0 rfl ⟨rfl,rfl,rfl,rfl,rfl,rfl,rfl,trivial⟩ ⟨rfl,rfl,rfl,trivial⟩ rfl rfl rfl
      | (subst hB;exact ⟨k + 1,by omega,by omega,B4 h0 rfl ⟨rfl,rfl,rfl,rfl,rfl,rfl,trivial⟩ ⟨rfl,rfl,trivial⟩ rfl rfl rfl⟩)
   ·have hkk:k = cols.length:=by omega
    subst hkk
    repeat' ((first|refine A5 ?_|refine S1 ?_|refine Z1 ?_|refine Z2 ?_|(refine And.intro ?_ ?_<;>intro h<;>try first|(exfalso;omega)|exact absurd rfl h)|refine Z3 ?_|refine Z4 ?_|intro el hel hbB|intro el hel|intro ex|refine Z5 ?_|(refine B0 ?_ ?_;exact ⟨by kernel_rfl,by decide⟩)|refine A9 ?_ ?_|exact A8|refine A7 ?_ ?_|exact A6|(refine A3 ?_ ?_ ?_;kernel_rfl;kernel_rfl)) <;> (try (conv=>whnf)))
    all_goals first
     | (exfalso;omega)
     | exact F4 rfl rfl rfl
set_option maxHeartbeats 4000000 in
theorem y6 {a:List (List Int)} (h:F0 a = 0):B5 Tryd.prog 52 [B7 a] (D6 (E9 a)):=by
 obtain ⟨h1,h2,h3,h4,_⟩:=AZ h
 have c1:=He a.length (by omega)
 have c2:=EZ a a.length rfl h3 h4 h2 (List.range a.length) (List.range a.length) rfl (by rw [List.length_range];exact h2) (fun r hr=>List.mem_range.1 hr) (fun r hr=>List.mem_range.1 hr)
 rw [NR] at c2
 generalize E9 a = D at *
 refine D1 Tryd.func52 11 (fun hrd E h0=>?_) (hcells:=by intro t T h;cases h;exact ⟨2,inferInstance,fun l h=>by cases h;rfl⟩)
 clear hrd
 repeat' ((first | refine A4 c1 ?_ | refine A4 c2 ?_ |refine A5 ?_|refine S1 ?_|refine Z1 ?_|refine Z2 ?_|(refine And.intro ?_ ?_<;>intro h<;>try first|(exfalso;omega)|exact absurd rfl h)|refine Z3 ?_|refine Z4 ?_|intro el hel hbB|intro el hel|intro ex|refine Z5 ?_|(refine B0 ?_ ?_;exact ⟨by kernel_rfl,by decide⟩)|refine A9 ?_ ?_|exact A8|refine A7 ?_ ?_|exact A6|(refine A3 ?_ ?_ ?_;kernel_rfl;kernel_rfl)) <;> (try (conv=>whnf)))
 all_goals first
  | (exfalso;omega)
  | exact F4 rfl rfl rfl
end Go.Proofs.YtbhegmcbpolemaaDoor

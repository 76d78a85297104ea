/- Chapter 19: lists of fractions, rows compared. -/
import Derived.Test.YtbhegmcbpolemaaDoorTJl5
import Derived.Test.YtbhegmcbpolemaaDoorTJm1
set_option linter.unusedVariables false
set_option linter.unnecessarySimpa false
set_option linter.unusedSimpArgs false
namespace Go.Proofs.YtbhegmcbpolemaaDoor
open Go Go.Av
attribute [local irreducible] E4 B6 F1 E7 DQ F6 F9 St.le B5 D4
set_option maxRecDepth 100000
theorem NK {α:Type} {a b:List α} (hl:a.length = b.length) {k:Nat} (hk:¬ k < a.length) (h:a.take k = b.take k):a = b:=by
 rw [List.take_of_length_le (by omega),List.take_of_length_le (by omega)] at h
 exact h
theorem QG {α:Type} {a b:List α} {k:Nat} {x y:α} (hx:a[k]? = some x) (hy:b[k]? = some y) (h:¬ x = y):¬ a = b:=by
 rintro rfl
 rw [hx] at hy
 exact h (Option.some.inj hy)
theorem NM {α:Type} {a b:List α} {k:Nat} {x y:α} (h:a.take k = b.take k) (hx:a[k]? = some x) (hy:b[k]? = some y) (e:x = y):a.take (k + 1) = b.take (k + 1):=by
 rw [CY hx,CY hy,h,e]
set_option maxHeartbeats 4000000 in
theorem EW (xs ys:List (Int × Int)):B5 Tryd.prog 29 [.sl 2 (xs.map Aa), .sl 2 (ys.map Aa)] (.b (decide (xs = ys))):=by
 refine D1 Tryd.func29 26 fun hrd E h0=>?_
 have hlen:xs.length ≤ 9223372036854775807:=by
  have:=(hrd (.sl 2 (xs.map Aa)) (by simp)).sl
  simpa using this
 have hlen2:ys.length ≤ 9223372036854775807:=by
  have:=(hrd (.sl 2 (ys.map Aa)) (by simp)).sl
  simpa using this
 clear hrd
 repeat' ((first|refine A5 ?_|refine S1 ?_|refine Z1 ?_|refine Z2 ?_|(refine And.intro ?_ ?_<;>intro h<;>try first|(exfalso;omega)|exact absurd rfl h)|refine Z3 ?_|refine Z4 ?_|intro el hel hbB|intro el hel|intro ex|refine Z5 ?_|(refine B0 ?_ ?_;exact ⟨by kernel_rfl,by decide⟩)|refine A9 ?_ ?_|exact A8|refine A7 ?_ ?_|exact A6|(refine A3 ?_ ?_ ?_;kernel_rfl;kernel_rfl)) <;> (try (conv=>whnf)))
 ·exact B9 rfl (congrArg AV.b (by
   have:xs ≠ ys:=by intro e;subst e;omega
   simp [this]))
 have hl:xs.length = ys.length:=by omega
 refine D7 (ι:=Nat) (fun k=>⟨[(0, .sl 2 (xs.map Aa)),(1, .sl 2 (ys.map Aa)),(5, .i k)],0,[]⟩) (fun k=>k ≤ xs.length ∧ ys.take k = xs.take k) (fun k=>xs.length - k) 0 ⟨Nat.zero_le _,rfl⟩ (B4 h0 rfl ⟨rfl,rfl,rfl,trivial⟩ trivial rfl rfl rfl) (fun k hI=>?_)
 obtain ⟨hk,hI⟩:=hI
 by_cases hlt:k < xs.length
 ·obtain ⟨x,hx⟩:∃ x,xs[k]? = some x:=⟨_,List.getElem?_eq_getElem hlt⟩
  obtain ⟨y,hy⟩:∃ y,ys[k]? = some y:=⟨_,List.getElem?_eq_getElem (by omega)⟩
  have hx2:xs[((k:Nat):Int).toNat]? = some x:=hx
  have hy2:ys[((k:Nat):Int).toNat]? = some y:=hy
  obtain ⟨x1,x2⟩:=x
  obtain ⟨y1,y2⟩:=y
  repeat' ((first | (refine B3 (x:=(x1,x2)) hx2 (by omega) ?_) | (refine B3 (x:=(y1,y2)) hy2 (by omega) ?_) | (refine M3 ?_ ?_;kernel_rfl) |refine A5 ?_|refine S1 ?_|refine Z1 ?_|refine Z2 ?_|(refine And.intro ?_ ?_<;>intro h<;>try first|(exfalso;omega)|exact absurd rfl h)|refine Z3 ?_|refine Z4 ?_|intro el hel hbB|intro el hel|intro ex|refine Z5 ?_|(refine B0 ?_ ?_;exact ⟨by kernel_rfl,by decide⟩)|refine A9 ?_ ?_|exact A8|refine A7 ?_ ?_|exact A6|(refine A3 ?_ ?_ ?_;kernel_rfl;kernel_rfl)) <;> (try (conv=>whnf)))
  all_goals first
   | (exfalso;omega)
   | (refine B9 rfl (congrArg AV.b (decide_eq_false (fun e=>?_)).symm)
      subst e
      rw [hx] at hy
      cases hy
      first | omega | simp_all)
   | exact ⟨k + 1,⟨by omega,by rw [CY hx,CY hy,hI];congr 2;first | omega | (simp_all;done) | (simp_all;omega)⟩,by omega,B4 h0 rfl ⟨rfl,rfl,rfl,trivial⟩ trivial rfl rfl rfl⟩
 ·repeat' ((first|refine A5 ?_|refine S1 ?_|refine Z1 ?_|refine Z2 ?_|(refine And.intro ?_ ?_<;>intro h<;>try first|(exfalso;omega)|exact absurd rfl h)|refine Z3 ?_|refine Z4 ?_|intro el hel hbB|intro el hel|intro ex|refine Z5 ?_|(refine B0 ?_ ?_;exact ⟨by kernel_rfl,by decide⟩)|refine A9 ?_ ?_|exact A8|refine A7 ?_ ?_|exact A6|(refine A3 ?_ ?_ ?_;kernel_rfl;kernel_rfl)) <;> (try (conv=>whnf)))
  all_goals first
   | (exfalso;omega)
   | (refine B9 rfl (congrArg AV.b (decide_eq_true ?_).symm)
      rw [List.take_of_length_le (by omega),List.take_of_length_le (by omega)] at hI
      exact hI.symm)
set_option maxHeartbeats 4000000 in
theorem Cu (xs ys:List Int):B5 Tryd.prog 33 [.sl 1 (xs.map C3), .sl 1 (ys.map C3)] (.b (decide (xs = ys))):=by
 refine D1 Tryd.func33 26 fun hrd E h0=>?_
 have hlen:xs.length ≤ 9223372036854775807:=by
  have:=(hrd (.sl 1 (xs.map C3)) (by simp)).sl
  simpa using this
 have hlen2:ys.length ≤ 9223372036854775807:=by
  have:=(hrd (.sl 1 (ys.map C3)) (by simp)).sl
  simpa using this
 clear hrd
 repeat' ((first|refine A5 ?_|refine S1 ?_|refine Z1 ?_|refine Z2 ?_|(refine And.intro ?_ ?_<;>intro h<;>try first|(exfalso;omega)|exact absurd rfl h)|refine Z3 ?_|refine Z4 ?_|intro el hel hbB|intro el hel|intro ex|refine Z5 ?_|(refine B0 ?_ ?_;exact ⟨by kernel_rfl,by decide⟩)|refine A9 ?_ ?_|exact A8|refine A7 ?_ ?_|exact A6|(refine A3 ?_ ?_ ?_;kernel_rfl;kernel_rfl)) <;> (try (conv=>whnf)))
 ·exact B9 rfl (congrArg AV.b (by
   have:xs ≠ ys:=by intro e;subst e;omega
   simp [this]))
 have hl:xs.length = ys.length:=by omega
 refine D7 (ι:=Nat) (fun k=>⟨[(0, .sl 1 (xs.map C3)),(1, .sl 1 (ys.map C3)),(5, .i k)],0,[]⟩) (fun k=>k ≤ xs.length ∧ ys.take k = xs.take k) (fun k=>xs.length - k) 0 ⟨Nat.zero_le _,rfl⟩ (B4 h0 rfl ⟨rfl,rfl,rfl,trivial⟩ trivial rfl rfl rfl) (fun k hI=>?_)
 obtain ⟨hk,hI⟩:=hI
 by_cases hlt:k < xs.length
 ·obtain ⟨x,hx⟩:∃ x,xs[k]? = some x:=⟨_,List.getElem?_eq_getElem hlt⟩
  obtain ⟨y,hy⟩:∃ y,ys[k]? = some y:=⟨_,List.getElem?_eq_getElem (by omega)⟩
  repeat' ((first | (refine B3 (x:=x) hx (by omega) ?_) | (refine B3 (x:=y) hy (by omega) ?_) | (refine M3 ?_ ?_;kernel_rfl) |refine A5 ?_|refine S1 ?_|refine Z1 ?_|refine Z2 ?_|(refine And.intro ?_ ?_<;>intro h<;>try first|(exfalso;omega)|exact absurd rfl h)|refine Z3 ?_|refine Z4 ?_|intro el hel hbB|intro el hel|intro ex|refine Z5 ?_|(refine B0 ?_ ?_;exact ⟨by kernel_rfl,by decide⟩)|refine A9 ?_ ?_|exact A8|refine A7 ?_ ?_|exact A6|(refine A3 ?_ ?_ ?_;kernel_rfl;kernel_rfl)) <;> (try (conv=>whnf)))
  all_goals first
   | (exfalso;omega)
   | (refine B9 rfl (congrArg AV.b (decide_eq_false (fun e=>?_)).symm)
      subst e
      rw [hx] at hy
      cases hy
      omega)
   | exact ⟨k + 1,⟨by omega,by rw [CY hx,CY hy,hI];congr 2;omega⟩,by omega,B4 h0 rfl ⟨rfl,rfl,rfl,trivial⟩ trivial rfl rfl rfl⟩
 ·repeat' ((first|refine A5 ?_|refine S1 ?_|refine Z1 ?_|refine Z2 ?_|(refine And.intro ?_ ?_<;>intro h<;>try first|(exfalso;omega)|exact absurd rfl h)|refine Z3 ?_|refine Z4 ?_|intro el hel hbB|intro el hel|intro ex|refine Z5 ?_|(refine B0 ?_ ?_;exact ⟨by kernel_rfl,by decide⟩)|refine A9 ?_ ?_|exact A8|refine A7 ?_ ?_|exact A6|(refine A3 ?_ ?_ ?_;kernel_rfl;kernel_rfl)) <;> (try (conv=>whnf)))
  all_goals first
   | (exfalso;omega)
   | (refine B9 rfl (congrArg AV.b (decide_eq_true ?_).symm)
      rw [List.take_of_length_le (by omega),List.take_of_length_le (by omega)] at hI
      exact hI.symm)
set_option maxHeartbeats 4000000 in
theorem Cv (a b:List (List Int)):B5 Tryd.prog 14 [.sl 1 (a.map fun r=>[B8 r]), .sl 1 (b.map fun r=>[B8 r])] (.b (decide (a = b))):=by
 by_cases hl:a.length = b.length
 ·have hi:=fun (x y:List Int)=>Cu x y
  refine D1 Tryd.func14 27 fun hrd E h0=>?_
  have hlen:a.length ≤ 9223372036854775807:=by have:=(hrd (.sl 1 (a.map fun r=>[B8 r])) (by simp)).sl;simpa using this
  clear hrd
  repeat' ((first|refine A5 ?_|refine S1 ?_|refine Z1 ?_|refine Z2 ?_|(refine And.intro ?_ ?_<;>intro h<;>try first|(exfalso;omega)|exact absurd rfl h)|refine Z3 ?_|refine Z4 ?_|intro el hel hbB|intro el hel|intro ex|refine Z5 ?_|(refine B0 ?_ ?_;exact ⟨by kernel_rfl,by decide⟩)|refine A9 ?_ ?_|exact A8|refine A7 ?_ ?_|exact A6|(refine A3 ?_ ?_ ?_;kernel_rfl;kernel_rfl)) <;> (try (conv=>whnf)))
  all_goals first
   | (exfalso;omega)
   | skip
  refine D7 (ι:=Nat) (fun k=>⟨[(0, .sl 1 (a.map fun r=>[B8 r])),(1, .sl 1 (b.map fun r=>[B8 r])),(5, .i k)],0,[]⟩) (fun k=>k ≤ a.length ∧ a.take k = b.take k) (fun k=>a.length - k) 0 ⟨Nat.zero_le _,by simp⟩ (B4 h0 rfl ⟨rfl,rfl,rfl,trivial⟩ trivial rfl rfl rfl) (fun k hI=>?_)
  obtain ⟨hk,hI⟩:=hI
  by_cases hlt:k < a.length
  ·obtain ⟨x,hx⟩:∃ x,a[k]? = some x:=⟨_,List.getElem?_eq_getElem hlt⟩
   obtain ⟨y,hy⟩:∃ y,b[k]? = some y:=⟨_,List.getElem?_eq_getElem (by omega)⟩
   have hxy:=hi x y
   have hst:=fun e:x = y=>NM hI hx hy e
   have hno:=fun e:¬ x = y=>QG hx hy e
   repeat' ((first | (refine B3 (x:=x) hx (by omega) ?_) | (refine B3 (x:=y) hy (by omega) ?_) | refine A4 hxy ?_ | (refine M3 ?_ ?_;kernel_rfl) |refine A5 ?_|refine S1 ?_|refine Z1 ?_|refine Z2 ?_|(refine And.intro ?_ ?_<;>intro h<;>try first|(exfalso;omega)|exact absurd rfl h)|refine Z3 ?_|refine Z4 ?_|intro el hel hbB|intro el hel|intro ex|refine Z5 ?_|(refine B0 ?_ ?_;exact ⟨by kernel_rfl,by decide⟩)|refine A9 ?_ ?_|exact A8|refine A7 ?_ ?_|exact A6|(refine A3 ?_ ?_ ?_;kernel_rfl;kernel_rfl)) <;> (try (conv=>whnf)))
   all_goals first
    | (exfalso;omega)
    | exact ⟨k + 1,⟨by omega,hst (by assumption)⟩,by omega,B4 h0 rfl ⟨rfl,rfl,rfl,trivial⟩ trivial rfl rfl rfl⟩
    | exact B9 rfl (congrArg AV.b (decide_eq_false (hno (by assumption))).symm)
  ·have he:=NK hl hlt hI
   repeat' ((first|refine A5 ?_|refine S1 ?_|refine Z1 ?_|refine Z2 ?_|(refine And.intro ?_ ?_<;>intro h<;>try first|(exfalso;omega)|exact absurd rfl h)|refine Z3 ?_|refine Z4 ?_|intro el hel hbB|intro el hel|intro ex|refine Z5 ?_|(refine B0 ?_ ?_;exact ⟨by kernel_rfl,by decide⟩)|refine A9 ?_ ?_|exact A8|refine A7 ?_ ?_|exact A6|(refine A3 ?_ ?_ ?_;kernel_rfl;kernel_rfl)) <;> (try (conv=>whnf)))
   all_goals first
    | (exfalso;omega)
    | exact B9 rfl (congrArg AV.b (decide_eq_true he).symm)
 ·have hne:¬ a = b:=fun e=>hl (by rw [e])
  refine D1 Tryd.func14 27 fun hrd E h0=>?_
  clear hrd
  repeat' ((first|refine A5 ?_|refine S1 ?_|refine Z1 ?_|refine Z2 ?_|(refine And.intro ?_ ?_<;>intro h<;>try first|(exfalso;omega)|exact absurd rfl h)|refine Z3 ?_|refine Z4 ?_|intro el hel hbB|intro el hel|intro ex|refine Z5 ?_|(refine B0 ?_ ?_;exact ⟨by kernel_rfl,by decide⟩)|refine A9 ?_ ?_|exact A8|refine A7 ?_ ?_|exact A6|(refine A3 ?_ ?_ ?_;kernel_rfl;kernel_rfl)) <;> (try (conv=>whnf)))
  all_goals first
   | (exfalso;omega)
   | exact B9 rfl (congrArg AV.b (decide_eq_false hne).symm)
end Go.Proofs.YtbhegmcbpolemaaDoor

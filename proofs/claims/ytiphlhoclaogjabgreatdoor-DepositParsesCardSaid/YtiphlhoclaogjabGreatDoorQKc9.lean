/- Chapter 3: rows and schemas compared. -/
import Derived.Test.YtiphlhoclaogjabGreatDoorQKa0
import Derived.Test.YtiphlhoclaogjabGreatDoorQF7
import Derived.Test.YtiphlhoclaogjabGreatDoorQKc5
import Derived.Test.YtiphlhoclaogjabGreatDoorQB12
set_option linter.unusedVariables false
set_option linter.unnecessarySimpa false
set_option linter.unusedSimpArgs false
namespace Go.Proofs.YtiphlhoclaogjabGreatDoor
open Go Go.Av
attribute [local irreducible] D6 B8 D8 D7 DQ E0 E1 St.le B4 B9
set_option maxRecDepth 100000
theorem Fc {α:Type} {a b:List α} (hl:a.length = b.length) {k:Nat} (hk:¬ k < a.length) (h:a.take k = b.take k):a = b:=by
 rw [List.take_of_length_le (by omega),List.take_of_length_le (by omega)] at h
 exact h
theorem Pf {α:Type} {a b:List α} {k:Nat} {x y:α} (hx:a[k]? = some x) (hy:b[k]? = some y) (h:¬ x = y):¬ a = b:=by
 rintro rfl
 rw [hx] at hy
 exact h (Option.some.inj hy)
theorem Fd {α:Type} {a b:List α} {k:Nat} {x y:α} (h:a.take k = b.take k) (hx:a[k]? = some x) (hy:b[k]? = some y) (e:x = y):a.take (k + 1) = b.take (k + 1):=by
 rw [Q2 hx,Q2 hy,h,e]
set_option maxHeartbeats 4000000 in
theorem IF (xs ys:List Int):B4 Tryz.prog 73 [.sl 1 (xs.map wA), .sl 1 (ys.map wA)] (.b (decide (xs = ys))):=by
 refine F3 Tryz.func73 26 fun hrd E h0=>?_
 have hlen:xs.length ≤ 9223372036854775807:=by
  have:=(hrd (.sl 1 (xs.map wA)) (by simp)).sl
  simpa using this
 have hlen2:ys.length ≤ 9223372036854775807:=by
  have:=(hrd (.sl 1 (ys.map wA)) (by simp)).sl
  simpa using this
 clear hrd
 repeat' ((first|refine A4 ?_|refine S1 ?_|refine Z1 ?_|refine Z2 ?_|(refine And.intro ?_ ?_<;>intro h<;>try first|(exfalso;omega)|exact absurd rfl h)|refine Z3 ?_|refine Z4 ?_|intro el hel hbB|intro el hel|intro ex|refine Z5 ?_|(refine A9 ?_ ?_;exact ⟨by kernel_rfl,by decide⟩)|refine A8 ?_ ?_|exact A7|refine A6 ?_ ?_|exact A5|(refine A0 ?_ ?_ ?_;kernel_rfl;kernel_rfl)) <;> (try (conv=>whnf)))
 ·exact B5 rfl (congrArg AV.b (by
   have:xs ≠ ys:=by intro e;subst e;omega
   simp [this]))
 have hl:xs.length = ys.length:=by omega
 refine C2 (ι:=Nat) (fun k=>⟨[(0, .sl 1 (xs.map wA)),(1, .sl 1 (ys.map wA)),(5, .i k)],0,[]⟩) (fun k=>k ≤ xs.length ∧ ys.take k = xs.take k) (fun k=>xs.length - k) 0 ⟨Nat.zero_le _,rfl⟩ (B0 h0 rfl ⟨rfl,rfl,rfl,trivial⟩ trivial rfl rfl rfl) (fun k hI=>?_)
 obtain ⟨hk,hI⟩:=hI
 by_cases hlt:k < xs.length
 ·obtain ⟨x,hx⟩:∃ x,xs[k]? = some x:=⟨_,List.getElem?_eq_getElem hlt⟩
  obtain ⟨y,hy⟩:∃ y,ys[k]? = some y:=⟨_,List.getElem?_eq_getElem (by omega)⟩
  repeat' ((first | (refine A3 (x:=x) hx (by omega) ?_) | (refine A3 (x:=y) hy (by omega) ?_) | (refine E3 ?_ ?_;kernel_rfl) |refine A4 ?_|refine S1 ?_|refine Z1 ?_|refine Z2 ?_|(refine And.intro ?_ ?_<;>intro h<;>try first|(exfalso;omega)|exact absurd rfl h)|refine Z3 ?_|refine Z4 ?_|intro el hel hbB|intro el hel|intro ex|refine Z5 ?_|(refine A9 ?_ ?_;exact ⟨by kernel_rfl,by decide⟩)|refine A8 ?_ ?_|exact A7|refine A6 ?_ ?_|exact A5|(refine A0 ?_ ?_ ?_;kernel_rfl;kernel_rfl)) <;> (try (conv=>whnf)))
  all_goals first
   | (exfalso;omega)
   | (refine B5 rfl (congrArg AV.b (decide_eq_false (fun e=>?_)).symm)
      subst e
      rw [hx] at hy
      cases hy
      omega)
   | exact ⟨k + 1,⟨by omega,by rw [Q2 hx,Q2 hy,hI];congr 2;omega⟩,by omega,B0 h0 rfl ⟨rfl,rfl,rfl,trivial⟩ trivial rfl rfl rfl⟩
 ·repeat' ((first|refine A4 ?_|refine S1 ?_|refine Z1 ?_|refine Z2 ?_|(refine And.intro ?_ ?_<;>intro h<;>try first|(exfalso;omega)|exact absurd rfl h)|refine Z3 ?_|refine Z4 ?_|intro el hel hbB|intro el hel|intro ex|refine Z5 ?_|(refine A9 ?_ ?_;exact ⟨by kernel_rfl,by decide⟩)|refine A8 ?_ ?_|exact A7|refine A6 ?_ ?_|exact A5|(refine A0 ?_ ?_ ?_;kernel_rfl;kernel_rfl)) <;> (try (conv=>whnf)))
  all_goals first
   | (exfalso;omega)
   | (refine B5 rfl (congrArg AV.b (decide_eq_true ?_).symm)
      rw [List.take_of_length_le (by omega),List.take_of_length_le (by omega)] at hI
      exact hI.symm)
set_option maxHeartbeats 4000000 in
theorem Rt (a b:List (List Int)):B4 Tryz.prog 43 [.sl 1 (a.map D2), .sl 1 (b.map D2)] (.b (decide (a = b))):=by
 by_cases hl:a.length = b.length
 ·have hi:=fun (x y:List Int)=>IF x y
  refine F3 Tryz.func43 27 fun hrd E h0=>?_
  have hlen:a.length ≤ 9223372036854775807:=by have:=(hrd (.sl 1 (a.map D2)) (by simp)).sl;simpa using this
  clear hrd
  repeat' ((first|refine A4 ?_|refine S1 ?_|refine Z1 ?_|refine Z2 ?_|(refine And.intro ?_ ?_<;>intro h<;>try first|(exfalso;omega)|exact absurd rfl h)|refine Z3 ?_|refine Z4 ?_|intro el hel hbB|intro el hel|intro ex|refine Z5 ?_|(refine A9 ?_ ?_;exact ⟨by kernel_rfl,by decide⟩)|refine A8 ?_ ?_|exact A7|refine A6 ?_ ?_|exact A5|(refine A0 ?_ ?_ ?_;kernel_rfl;kernel_rfl)) <;> (try (conv=>whnf)))
  all_goals first
   | (exfalso;omega)
   | skip
  refine C2 (ι:=Nat) (fun k=>⟨[(0, .sl 1 (a.map D2)),(1, .sl 1 (b.map D2)),(5, .i k)],0,[]⟩) (fun k=>k ≤ a.length ∧ a.take k = b.take k) (fun k=>a.length - k) 0 ⟨Nat.zero_le _,by simp⟩ (B0 h0 rfl ⟨rfl,rfl,rfl,trivial⟩ trivial rfl rfl rfl) (fun k hI=>?_)
  obtain ⟨hk,hI⟩:=hI
  by_cases hlt:k < a.length
  ·obtain ⟨x,hx⟩:∃ x,a[k]? = some x:=⟨_,List.getElem?_eq_getElem hlt⟩
   obtain ⟨y,hy⟩:∃ y,b[k]? = some y:=⟨_,List.getElem?_eq_getElem (by omega)⟩
   have hxy:=hi x y
   have hst:=fun e:x = y=>Fd hI hx hy e
   have hno:=fun e:¬ x = y=>Pf hx hy e
   repeat' ((first | (refine A3 (x:=x) hx (by omega) ?_) | (refine A3 (x:=y) hy (by omega) ?_) | refine B2 hxy ?_ | (refine E3 ?_ ?_;kernel_rfl) |refine A4 ?_|refine S1 ?_|refine Z1 ?_|refine Z2 ?_|(refine And.intro ?_ ?_<;>intro h<;>try first|(exfalso;omega)|exact absurd rfl h)|refine Z3 ?_|refine Z4 ?_|intro el hel hbB|intro el hel|intro ex|refine Z5 ?_|(refine A9 ?_ ?_;exact ⟨by kernel_rfl,by decide⟩)|refine A8 ?_ ?_|exact A7|refine A6 ?_ ?_|exact A5|(refine A0 ?_ ?_ ?_;kernel_rfl;kernel_rfl)) <;> (try (conv=>whnf)))
   all_goals first
    | (exfalso;omega)
    | exact ⟨k + 1,⟨by omega,hst (by assumption)⟩,by omega,B0 h0 rfl ⟨rfl,rfl,rfl,trivial⟩ trivial rfl rfl rfl⟩
    | exact B5 rfl (congrArg AV.b (decide_eq_false (hno (by assumption))).symm)
  ·have he:=Fc hl hlt hI
   repeat' ((first|refine A4 ?_|refine S1 ?_|refine Z1 ?_|refine Z2 ?_|(refine And.intro ?_ ?_<;>intro h<;>try first|(exfalso;omega)|exact absurd rfl h)|refine Z3 ?_|refine Z4 ?_|intro el hel hbB|intro el hel|intro ex|refine Z5 ?_|(refine A9 ?_ ?_;exact ⟨by kernel_rfl,by decide⟩)|refine A8 ?_ ?_|exact A7|refine A6 ?_ ?_|exact A5|(refine A0 ?_ ?_ ?_;kernel_rfl;kernel_rfl)) <;> (try (conv=>whnf)))
   all_goals first
    | (exfalso;omega)
    | exact B5 rfl (congrArg AV.b (decide_eq_true he).symm)
 ·have hne:¬ a = b:=fun e=>hl (by rw [e])
  refine F3 Tryz.func43 27 fun hrd E h0=>?_
  clear hrd
  repeat' ((first|refine A4 ?_|refine S1 ?_|refine Z1 ?_|refine Z2 ?_|(refine And.intro ?_ ?_<;>intro h<;>try first|(exfalso;omega)|exact absurd rfl h)|refine Z3 ?_|refine Z4 ?_|intro el hel hbB|intro el hel|intro ex|refine Z5 ?_|(refine A9 ?_ ?_;exact ⟨by kernel_rfl,by decide⟩)|refine A8 ?_ ?_|exact A7|refine A6 ?_ ?_|exact A5|(refine A0 ?_ ?_ ?_;kernel_rfl;kernel_rfl)) <;> (try (conv=>whnf)))
  all_goals first
   | (exfalso;omega)
   | exact B5 rfl (congrArg AV.b (decide_eq_false hne).symm)
end Go.Proofs.YtiphlhoclaogjabGreatDoor
namespace Go.Proofs.YtiphlhoclaogjabGreatDoor
open Go Go.Av
attribute [local irreducible] D6 B8 D8 D7 DQ E0 E1 St.le B4 B9
set_option maxRecDepth 100000
set_option maxHeartbeats 16000000 in
theorem Pg (a b:C4):B4 Tryz.prog 42 [sA a,sA b] (.b (decide (a.lists = b.lists ∧ a.cols = b.cols))):=by
 have hi:=fun (x y:List Int)=>IF x y
 by_cases hl:a.lists.length = b.lists.length ∧ a.cols.length = b.cols.length
 ·obtain ⟨hl1,hl2⟩:=hl
  refine F3 Tryz.func42 158 fun hrd E h0=>?_
  have hrl:=p9 (s:=a) (hrd _ (by simp))
  obtain ⟨n1,n2,n3⟩:=hrl
  clear hrd
  repeat' ((first|refine A4 ?_|refine S1 ?_|refine Z1 ?_|refine Z2 ?_|(refine And.intro ?_ ?_<;>intro h<;>try first|(exfalso;omega)|exact absurd rfl h)|refine Z3 ?_|refine Z4 ?_|intro el hel hbB|intro el hel|intro ex|refine Z5 ?_|(refine A9 ?_ ?_;exact ⟨by kernel_rfl,by decide⟩)|refine A8 ?_ ?_|exact A7|refine A6 ?_ ?_|exact A5|(refine A0 ?_ ?_ ?_;kernel_rfl;kernel_rfl)) <;> (try (conv=>whnf)))
  all_goals first
   | (exfalso;omega)
   | skip
  refine C2 (ι:=Nat) (fun k=>⟨[(2, .iptr (sL a)),(3, .iptr (sL b)),(5, .i k)],0,[]⟩) (fun k=>k ≤ a.lists.length ∧ a.lists.take k = b.lists.take k) (fun k=>a.lists.length - k) 0 ⟨Nat.zero_le _,by simp⟩ (B0 h0 rfl ⟨rfl,rfl,rfl,trivial⟩ trivial rfl rfl rfl) (fun k hI=>?_)
  obtain ⟨hk,hI⟩:=hI
  by_cases hlt:k < a.lists.length
  ·obtain ⟨x,hx⟩:∃ x,a.lists[k]? = some x:=⟨_,List.getElem?_eq_getElem hlt⟩
   obtain ⟨y,hy⟩:∃ y,b.lists[k]? = some y:=⟨_,List.getElem?_eq_getElem (by omega)⟩
   have hno:¬ x = y → ¬ (a.lists = b.lists ∧ a.cols = b.cols):=fun h e=>Pf hx hy h e.1
   have hxl:=n3 x (List.mem_of_getElem? hx)
   repeat' ((first | (refine A3 (x:=x) hx (by omega) ?_) | (refine A3 (x:=y) hy (by omega) ?_) | (refine E3 ?_ ?_;kernel_rfl) |refine A4 ?_|refine S1 ?_|refine Z1 ?_|refine Z2 ?_|(refine And.intro ?_ ?_<;>intro h<;>try first|(exfalso;omega)|exact absurd rfl h)|refine Z3 ?_|refine Z4 ?_|intro el hel hbB|intro el hel|intro ex|refine Z5 ?_|(refine A9 ?_ ?_;exact ⟨by kernel_rfl,by decide⟩)|refine A8 ?_ ?_|exact A7|refine A6 ?_ ?_|exact A5|(refine A0 ?_ ?_ ?_;kernel_rfl;kernel_rfl)) <;> (try (conv=>whnf)))
   all_goals first
    | (exfalso;omega)
    | exact B5 rfl (congrArg AV.b (decide_eq_false (hno fun e=>(by assumption:x.1 ≠ y.1) (by rw [e]))).symm)
    | exact B5 rfl (congrArg AV.b (decide_eq_false (hno fun e=>(by assumption:(x.2.length:Int) ≠ (y.2.length:Int)) (by rw [e]))).symm)
    | skip
   have hx1:x.1 = y.1:=Decidable.of_not_not (by assumption)
   have hx2:x.2.length = y.2.length:=by omega
   refine C2 (ι:=Nat) (fun j=>⟨[(2, .iptr (sL a)),(3, .iptr (sL b)),(5, .i k),(6, .i j)],0,[]⟩) (fun j=>j ≤ x.2.length ∧ x.2.take j = y.2.take j) (fun j=>x.2.length - j) 0 ⟨Nat.zero_le _,by simp⟩ (B0 h0 rfl ⟨rfl,rfl,rfl,rfl,trivial⟩ trivial rfl rfl rfl) (fun j hJ=>?_)
   obtain ⟨hj,hJ⟩:=hJ
   by_cases hjt:j < x.2.length
   ·obtain ⟨u,hu⟩:∃ u,x.2[j]? = some u:=⟨_,List.getElem?_eq_getElem hjt⟩
    obtain ⟨v,hv⟩:∃ v,y.2[j]? = some v:=⟨_,List.getElem?_eq_getElem (by omega)⟩
    have hnu:¬ (u.name = v.name ∧ u.parent = v.parent) → ¬ (a.lists = b.lists ∧ a.cols = b.cols):=fun h=>hno fun e=>by
     subst e
     rw [hu] at hv
     cases hv
     exact h ⟨rfl,rfl⟩
    have hst:=fun e:u = v=>Fd hJ hu hv e
    repeat' ((first | (refine A3 (x:=x) hx (by omega) ?_) | (refine A3 (x:=y) hy (by omega) ?_) | (refine A3 (x:=u) hu (by omega) ?_) | (refine A3 (x:=v) hv (by omega) ?_) | (refine E3 ?_ ?_;kernel_rfl) |refine A4 ?_|refine S1 ?_|refine Z1 ?_|refine Z2 ?_|(refine And.intro ?_ ?_<;>intro h<;>try first|(exfalso;omega)|exact absurd rfl h)|refine Z3 ?_|refine Z4 ?_|intro el hel hbB|intro el hel|intro ex|refine Z5 ?_|(refine A9 ?_ ?_;exact ⟨by kernel_rfl,by decide⟩)|refine A8 ?_ ?_|exact A7|refine A6 ?_ ?_|exact A5|(refine A0 ?_ ?_ ?_;kernel_rfl;kernel_rfl)) <;> (try (conv=>whnf)))
    all_goals first
     | (exfalso;omega)
     | exact B5 rfl (congrArg AV.b (decide_eq_false (hnu (by assumption))).symm)
     | exact ⟨j + 1,⟨by omega,hst (by obtain ⟨h1,h2⟩:u.name = v.name ∧ u.parent = v.parent:=(by assumption);obtain ⟨un,up⟩:=u;obtain ⟨vn,vp⟩:=v;dsimp only at h1 h2;rw [h1,h2])⟩,by omega,B0 h0 rfl ⟨rfl,rfl,rfl,rfl,trivial⟩ trivial rfl rfl rfl⟩
   ·have hxy:x = y:=Prod.ext hx1 (Fc hx2 hjt hJ)
    have hst:=Fd hI hx hy hxy
    repeat' ((first | (refine A3 (x:=x) hx (by omega) ?_) | (refine A3 (x:=y) hy (by omega) ?_) |refine A4 ?_|refine S1 ?_|refine Z1 ?_|refine Z2 ?_|(refine And.intro ?_ ?_<;>intro h<;>try first|(exfalso;omega)|exact absurd rfl h)|refine Z3 ?_|refine Z4 ?_|intro el hel hbB|intro el hel|intro ex|refine Z5 ?_|(refine A9 ?_ ?_;exact ⟨by kernel_rfl,by decide⟩)|refine A8 ?_ ?_|exact A7|refine A6 ?_ ?_|exact A5|(refine A0 ?_ ?_ ?_;kernel_rfl;kernel_rfl)) <;> (try (conv=>whnf)))
    all_goals first
     | (exfalso;omega)
     | exact ⟨k + 1,⟨by omega,hst⟩,by omega,B0 h0 rfl ⟨rfl,rfl,rfl,trivial⟩ trivial rfl rfl rfl⟩
  ·have hL:=Fc hl1 hlt hI
   repeat' ((first|refine A4 ?_|refine S1 ?_|refine Z1 ?_|refine Z2 ?_|(refine And.intro ?_ ?_<;>intro h<;>try first|(exfalso;omega)|exact absurd rfl h)|refine Z3 ?_|refine Z4 ?_|intro el hel hbB|intro el hel|intro ex|refine Z5 ?_|(refine A9 ?_ ?_;exact ⟨by kernel_rfl,by decide⟩)|refine A8 ?_ ?_|exact A7|refine A6 ?_ ?_|exact A5|(refine A0 ?_ ?_ ?_;kernel_rfl;kernel_rfl)) <;> (try (conv=>whnf)))
   all_goals first
    | (exfalso;omega)
    | skip
   refine C2 (ι:=Nat) (fun k=>⟨[(2, .iptr (sL a)),(3, .iptr (sL b)),(7, .i k)],0,[]⟩) (fun k=>k ≤ a.cols.length ∧ a.cols.take k = b.cols.take k) (fun k=>a.cols.length - k) 0 ⟨Nat.zero_le _,by simp⟩ (B0 h0 rfl ⟨rfl,rfl,rfl,trivial⟩ trivial rfl rfl rfl) (fun k hI=>?_)
   obtain ⟨hk,hI⟩:=hI
   by_cases hlt:k < a.cols.length
   ·obtain ⟨x,hx⟩:∃ x,a.cols[k]? = some x:=⟨_,List.getElem?_eq_getElem hlt⟩
    obtain ⟨y,hy⟩:∃ y,b.cols[k]? = some y:=⟨_,List.getElem?_eq_getElem (by omega)⟩
    have hno:¬ x = y → ¬ (a.lists = b.lists ∧ a.cols = b.cols):=fun h e=>Pf hx hy h e.2
    have hst:=fun e:x = y=>Fd hI hx hy e
    have hxy:=hi x.widths y.widths
    have hE:x.name = y.name → x.kind = y.kind → x.lst = y.lst → x.low = y.low → x.high = y.high → x.opt = y.opt → x.widths = y.widths → x = y:=fun h1 h2 h3 h4 h5 h6 h7=>by
     obtain ⟨x1,x2,x3,x4,x5,x6,x7⟩:=x
     obtain ⟨y1,y2,y3,y4,y5,y6,y7⟩:=y
     dsimp only at *
     rw [h1,h2,h3,h4,h5,h6,h7]
    have hn7:decide (x.widths = y.widths) = false → ¬ x.widths = y.widths:=of_decide_eq_false
    have hy7:decide (x.widths = y.widths) = true → x.widths = y.widths:=of_decide_eq_true
    repeat' ((first | (refine G6 (id:=16) ⟨[(2, .iptr (sL a)),(3, .iptr (sL b)),(7, .i k),(8, .iptr (C0 x)),(9, .iptr (C0 y))],0,[]⟩ ?_ ?_) | (refine A3 (x:=x) hx (by omega) ?_) | (refine A3 (x:=y) hy (by omega) ?_) | refine B2 hxy ?_ |refine A4 ?_|refine S1 ?_|refine Z1 ?_|refine Z2 ?_|(refine And.intro ?_ ?_<;>intro h<;>try first|(exfalso;omega)|exact absurd rfl h)|refine Z3 ?_|refine Z4 ?_|intro el hel hbB|intro el hel|intro ex|refine Z5 ?_|(refine A9 ?_ ?_;exact ⟨by kernel_rfl,by decide⟩)|refine A8 ?_ ?_|exact A7|refine A6 ?_ ?_|exact A5|(refine A0 ?_ ?_ ?_;kernel_rfl;kernel_rfl)) <;> (try (conv=>whnf)))
    all_goals first
     | (exfalso;omega)
     | exact B0 h0 rfl ⟨rfl,rfl,rfl,rfl,rfl,trivial⟩ trivial rfl rfl rfl
     | (refine B5 rfl (congrArg AV.b (decide_eq_false (hno fun e=>?_)).symm);subst e;contradiction)
     | (refine B5 rfl (congrArg AV.b (decide_eq_false (hno fun e=>?_)).symm);subst e;simp_all;done)
     | exact ⟨k + 1,⟨by omega,hst (hE (Decidable.of_not_not (by assumption)) (by omega) (by omega) (by omega) (by omega) (by first | assumption | exact Decidable.of_not_not (by assumption)) (by first | assumption | exact Decidable.of_not_not (by assumption)))⟩,by omega,B0 h0 rfl ⟨rfl,rfl,rfl,trivial⟩ trivial rfl rfl rfl⟩
   ·have hC:=Fc hl2 hlt hI
    repeat' ((first|refine A4 ?_|refine S1 ?_|refine Z1 ?_|refine Z2 ?_|(refine And.intro ?_ ?_<;>intro h<;>try first|(exfalso;omega)|exact absurd rfl h)|refine Z3 ?_|refine Z4 ?_|intro el hel hbB|intro el hel|intro ex|refine Z5 ?_|(refine A9 ?_ ?_;exact ⟨by kernel_rfl,by decide⟩)|refine A8 ?_ ?_|exact A7|refine A6 ?_ ?_|exact A5|(refine A0 ?_ ?_ ?_;kernel_rfl;kernel_rfl)) <;> (try (conv=>whnf)))
    all_goals first
     | (exfalso;omega)
     | exact B5 rfl (congrArg AV.b (decide_eq_true ⟨hL,hC⟩).symm)
 ·have hne:¬ (a.lists = b.lists ∧ a.cols = b.cols):=fun e=>hl ⟨by rw [e.1],by rw [e.2]⟩
  refine F3 Tryz.func42 158 fun hrd E h0=>?_
  clear hrd
  repeat' ((first|refine A4 ?_|refine S1 ?_|refine Z1 ?_|refine Z2 ?_|(refine And.intro ?_ ?_<;>intro h<;>try first|(exfalso;omega)|exact absurd rfl h)|refine Z3 ?_|refine Z4 ?_|intro el hel hbB|intro el hel|intro ex|refine Z5 ?_|(refine A9 ?_ ?_;exact ⟨by kernel_rfl,by decide⟩)|refine A8 ?_ ?_|exact A7|refine A6 ?_ ?_|exact A5|(refine A0 ?_ ?_ ?_;kernel_rfl;kernel_rfl)) <;> (try (conv=>whnf)))
  all_goals first
   | (exfalso;omega)
   | exact B5 rfl (congrArg AV.b (decide_eq_false hne).symm)
set_option maxHeartbeats 4000000 in
theorem Dv (s:C4) (a:List (List Int)) (t:C4) (b:List (List Int)):B4 Tryz.prog 15 [sA s, .sl 1 (a.map D2),sA t, .sl 1 (b.map D2)] (.b (decide (s.lists = t.lists ∧ s.cols = t.cols ∧ a = b))):=by
 have h1:=Pg s t
 have h2:=Rt a b
 have e1:¬ (s.lists = t.lists ∧ s.cols = t.cols) → decide (s.lists = t.lists ∧ s.cols = t.cols ∧ a = b) = false:=fun h=>decide_eq_false fun g=>h ⟨g.1,g.2.1⟩
 have e2:(s.lists = t.lists ∧ s.cols = t.cols) → decide (s.lists = t.lists ∧ s.cols = t.cols ∧ a = b) = decide (a = b):=fun h=>by
  rw [decide_eq_decide]
  exact ⟨fun g=>g.2.2,fun g=>⟨h.1,h.2,g⟩⟩
 generalize decide (s.lists = t.lists ∧ s.cols = t.cols ∧ a = b) = B at *
 generalize hb:decide (s.lists = t.lists ∧ s.cols = t.cols) = B1 at *
 refine F3 Tryz.func15 17 fun hrd E h0=>?_
 clear hrd
 cases B1 with
 | true =>
   have e2:=e2 (of_decide_eq_true hb)
   clear e1 hb
   repeat' ((first | refine B2 h1 ?_ | refine B2 h2 ?_ |refine A4 ?_|refine S1 ?_|refine Z1 ?_|refine Z2 ?_|(refine And.intro ?_ ?_<;>intro h<;>try first|(exfalso;omega)|exact absurd rfl h)|refine Z3 ?_|refine Z4 ?_|intro el hel hbB|intro el hel|intro ex|refine Z5 ?_|(refine A9 ?_ ?_;exact ⟨by kernel_rfl,by decide⟩)|refine A8 ?_ ?_|exact A7|refine A6 ?_ ?_|exact A5|(refine A0 ?_ ?_ ?_;kernel_rfl;kernel_rfl)) <;> (try (conv=>whnf)))
   all_goals first
    | exact B5 rfl (congrArg AV.b e2.symm)
 | false =>
   have e1:=e1 (of_decide_eq_false hb)
   clear e2 hb
   repeat' ((first | refine B2 h1 ?_ | refine B2 h2 ?_ |refine A4 ?_|refine S1 ?_|refine Z1 ?_|refine Z2 ?_|(refine And.intro ?_ ?_<;>intro h<;>try first|(exfalso;omega)|exact absurd rfl h)|refine Z3 ?_|refine Z4 ?_|intro el hel hbB|intro el hel|intro ex|refine Z5 ?_|(refine A9 ?_ ?_;exact ⟨by kernel_rfl,by decide⟩)|refine A8 ?_ ?_|exact A7|refine A6 ?_ ?_|exact A5|(refine A0 ?_ ?_ ?_;kernel_rfl;kernel_rfl)) <;> (try (conv=>whnf)))
   all_goals first
    | exact B5 rfl (congrArg AV.b e1.symm)
end Go.Proofs.YtiphlhoclaogjabGreatDoor
namespace Go.Proofs.YtiphlhoclaogjabGreatDoor
open Go Go.Av
attribute [local irreducible] D6 B8 D8 D7 DQ E0 E1 St.le B4 B9
set_option maxRecDepth 100000
def IG:C4:=⟨[],[⟨[119,104,111],1,0,0,0,[],false⟩,⟨[109],3,0,0,9,[1],true⟩]⟩
abbrev Ph:AV:=.agg [.v (.slice none 0 0), .sl 7 [[.str [119,104,111], .i 1, .i 0, .i 0, .i 0, .v (.slice none 0 0), .b false],[.str [109], .i 3, .i 0, .i 0, .i 9, .sl 1 [[.i 1]], .b true]]]
theorem Wi:NL Ph (sA IG):=Lq ⟨.nil 2,ZM ⟨⟨.refl _, .refl _, .refl _, .refl _, .refl _, .nil 1, .refl _,trivial⟩,⟨.refl _, .refl _, .refl _, .refl _, .refl _, .refl _, .refl _,trivial⟩,trivial⟩,trivial⟩
theorem Ru {f:Nat} {l:List AV} {r:AV} (h:B4 Tryz.prog f (sA IG :: l) r):B4 Tryz.prog f (Ph :: l) r:=TW h ⟨Wi,CH.refl l⟩
abbrev MX:List UInt8:=[105,100,32,119,104,111,10,109,101,97,115,117,114,101,32,109,32,48,32,57,32,109,97,121,32,49,10,114,111,119,32,52,32,110,97,10,115,117,109,32,56,52,50,57,55,52,10]
abbrev Gh:List (List Int):=[[4,(-1099511627776)]]
theorem Ye:K4 IG Gh = (MX,0):=by kernel_rfl
theorem Yf:Cf MX = ((IG,Gh),0,0):=by kernel_rfl
set_option maxHeartbeats 4000000 in
theorem NQ:B4 Tryz.prog 7 [] (.b true):=by
 have c1:B4 Tryz.prog 10 [Ph, .sl 1 [[.sl 1 [[.i 4],[.i (-1099511627776)]]]]] (.tup [.str MX, .i 0]):=Ru ((GG IG Gh).congr (congrArg (fun z:List UInt8 × Int=>AV.tup [.str z.1, .i z.2]) Ye))
 have c2:B4 Tryz.prog 14 [.str MX] (.tup [sA IG, .sl 1 (Gh.map D2), .i 0, .i 0]):=(Du MX).congr (congrArg (fun z:(C4 × List (List Int)) × Nat × Int=>AV.tup [sA z.1.1, .sl 1 (z.1.2.map D2), .i z.2.1, .i z.2.2]) Yf)
 have c3:B4 Tryz.prog 15 [Ph, .sl 1 [[.sl 1 [[.i 4],[.i (-1099511627776)]]]],sA IG, .sl 1 (Gh.map D2)] (.b true):=Ru ((Dv IG Gh IG Gh).congr (congrArg AV.b (decide_eq_true ⟨rfl,rfl,rfl⟩)))
 have c4:B4 Tryz.prog 12 [.str []] (.i 7):=Dk [] (by decide)
 have c5:B4 Tryz.prog 12 [.str [97]] (.i 328):=(Dk [97] (by decide)).congr (congrArg AV.i (by decide))
 refine F3 Tryz.func7 63 fun hrd E h0=>?_
 clear hrd
 repeat' ((first | (refine G9 ?_ ?_;(show (0:Int) ≤ 0 ∧ (0:Int) ≤ 7 ∧ (7:Int) ≤ 47;decide)) | refine B2 c1 ?_ | refine B2 c2 ?_ | refine B2 c3 ?_ | refine B2 c4 ?_ | refine B2 c5 ?_ |refine A4 ?_|refine S1 ?_|refine Z1 ?_|refine Z2 ?_|(refine And.intro ?_ ?_<;>intro h<;>try first|(exfalso;omega)|exact absurd rfl h)|refine Z3 ?_|refine Z4 ?_|intro el hel hbB|intro el hel|intro ex|refine Z5 ?_|(refine A9 ?_ ?_;exact ⟨by kernel_rfl,by decide⟩)|refine A8 ?_ ?_|exact A7|refine A6 ?_ ?_|exact A5|(refine A0 ?_ ?_ ?_;kernel_rfl;kernel_rfl)) <;> (try (conv=>whnf)))
 all_goals first
  | exact B5 rfl rfl
end Go.Proofs.YtiphlhoclaogjabGreatDoor

/- Chapter 8: the program's reader of declarations: Parse. -/
import Derived.Test.YthkklceofokkmaaGreatDoorBQr5
import Derived.Test.YthkklceofokkmaaGreatDoorBQn1
import Derived.Test.YthkklceofokkmaaGreatDoorBE3
import Derived.Lib.Builder
import Derived.Lib.UnsafeStr
set_option linter.unusedVariables false
set_option linter.unnecessarySimpa false
set_option linter.unusedSimpArgs false
namespace Go.Proofs.YthkklceofokkmaaGreatDoor
open Go Go.Av
attribute [local irreducible] E5 B7 E6 E7 DQ E8 F0 St.le B3 B5
set_option maxRecDepth 100000
theorem EV:NL (.agg [.str [], .str [], .i 0, .i 0, .i 0, .i 0, .i 0,C5, .i 0, .i 0, .i 0,C5]) (M5 zD):=Hh ⟨.refl _, .refl _, .refl _, .refl _, .refl _, .refl _, .refl _, .nil 6, .refl _, .refl _, .refl _, .nil 17,trivial⟩
theorem bQ (s:B2) (d:F4) (n:Nat) (t:List UInt8):(l6 s d n t).1.qs.length ≤ d.qs.length + 1:=by
 unfold l6 L6 DY Hy
 repeat' split
 all_goals first
  | exact Nat.le_succ _
  | (rw [List.length_append,List.length_singleton];exact Nat.le_refl _)
abbrev dg (s:B2) (d:F4) (n:Nat):Hp:=[(0,some (.box (CM s d))),(1,some (.row E9 17 0 (d.qs.map C4))),(2,some (.box [.ref 0 0])),(3,some (.box [.i n]))]
set_option maxHeartbeats 8000000 in
theorem RQ (s:B2) (d:F4) (n:Nat) (hn:1 ≤ n ∧ n ≤ 4) (t:List UInt8) (ht:t.length ≤ 20000):B5 Tryz.prog 51 4 (dg s d n) [.str t, .ref 2 0, .ref 3 0] 4 (dg s (L6 s d n t).1 n) (.b (L6 s d n t).2):=by
 have h1:=RM s d n hn t ht
 generalize L6 s d n t = R at *
 obtain ⟨d2,b⟩:=R
 dsimp only at h1 ⊢
 refine G3 Tryz.func51 9 fun E h0=>?_
 repeat' ((first|refine A1 ?_|refine S1 ?_|refine Z1 ?_|refine Z2 ?_|(refine And.intro ?_ ?_<;>intro h<;>try first|(exfalso;omega)|exact absurd rfl h)|refine Z3 ?_|refine Z4 ?_|intro el hel hbB|intro el hel|intro ex|refine Z5 ?_|(refine A8 ?_ ?_;exact ⟨by kernel_rfl,by decide⟩)|refine A7 ?_ ?_|exact A6|refine A3 ?_ ?_|exact A2|(refine A0 ?_ ?_ ?_;kernel_rfl;kernel_rfl) | refine nc [0,1] [0,0] h1 rfl rfl rfl ⟨rfl,rfl,trivial⟩ ?_) <;> (try (conv=>whnf)))
 all_goals first
  | exact D4 (A5 h0 rfl ⟨rfl,trivial⟩ ⟨rfl,⟨_,rfl⟩,rfl,rfl,trivial⟩ rfl rfl rfl)
theorem fB (w:List UInt8):Lib.cut w [10] = (w.takeWhile (B6 10),(w.dropWhile (B6 10)).drop 1,decide (w.dropWhile (B6 10) ≠ [])):=Ig 10 w
set_option maxHeartbeats 32000000 in
theorem BE (s:B2) (t0:List UInt8):B3 Tryz.prog 19 [sA s, .str t0] (.tup [M5 (l8 s t0).1, .i (l8 s t0).2.1, .i (l8 s t0).2.2]):=by
 have h1:=AB s
 unfold l8
 by_cases hr:¬ C8 s = 0
 ·rw [if_pos hr]
  generalize C8 s = e at *
  dsimp only
  refine F7 Tryz.func19 72 fun hrd E h0=>?_
  clear hrd
  repeat' ((first | refine B0 h1 ?_ |refine A1 ?_|refine S1 ?_|refine Z1 ?_|refine Z2 ?_|(refine And.intro ?_ ?_<;>intro h<;>try first|(exfalso;omega)|exact absurd rfl h)|refine Z3 ?_|refine Z4 ?_|intro el hel hbB|intro el hel|intro ex|refine Z5 ?_|(refine A8 ?_ ?_;exact ⟨by kernel_rfl,by decide⟩)|refine A7 ?_ ?_|exact A6|refine A3 ?_ ?_|exact A2|(refine A0 ?_ ?_ ?_;kernel_rfl;kernel_rfl)) <;> (try (conv=>whnf)))
  all_goals first
   | (exfalso;omega)
   | exact Bu (rs:=[.cell 4 X0, .tmp 5, .tmp 6]) (vs:=[_,_,_]) rfl ⟨s3 rfl rfl rfl EV,⟨_,rfl, .refl _⟩,⟨_,rfl, .refl _⟩,trivial⟩ rfl
 have hr0:C8 s = 0:=Decidable.of_not_not hr
 rw [if_neg hr]
 rw [hr0] at h1
 by_cases hl:20000 < t0.length
 ·rw [if_pos hl]
  dsimp only
  refine F7 Tryz.func19 72 fun hrd E h0=>?_
  clear hrd
  repeat' ((first | refine B0 h1 ?_ |refine A1 ?_|refine S1 ?_|refine Z1 ?_|refine Z2 ?_|(refine And.intro ?_ ?_<;>intro h<;>try first|(exfalso;omega)|exact absurd rfl h)|refine Z3 ?_|refine Z4 ?_|intro el hel hbB|intro el hel|intro ex|refine Z5 ?_|(refine A8 ?_ ?_;exact ⟨by kernel_rfl,by decide⟩)|refine A7 ?_ ?_|exact A6|refine A3 ?_ ?_|exact A2|(refine A0 ?_ ?_ ?_;kernel_rfl;kernel_rfl)) <;> (try (conv=>whnf)))
  all_goals first
   | (exfalso;omega)
   | exact Bu (rs:=[.cell 4 X0, .tmp 5, .tmp 6]) (vs:=[_,_,_]) rfl ⟨s3 rfl rfl rfl EV,⟨_,rfl, .refl _⟩,⟨_,rfl, .refl _⟩,trivial⟩ rfl
 rw [if_neg hl]
 generalize hZ:Y6 s (t0.length + 1) zD 1 t0 = Z
 obtain ⟨Z1,Z2,Z3⟩:=Z
 dsimp only
 refine F7 Tryz.func19 72 fun hrd E h0=>?_
 clear hrd
 repeat' ((first | refine B0 h1 ?_ |refine A1 ?_|refine S1 ?_|refine Z1 ?_|refine Z2 ?_|(refine And.intro ?_ ?_<;>intro h<;>try first|(exfalso;omega)|exact absurd rfl h)|refine Z3 ?_|refine Z4 ?_|intro el hel hbB|intro el hel|intro ex|refine Z5 ?_|(refine A8 ?_ ?_;exact ⟨by kernel_rfl,by decide⟩)|refine A7 ?_ ?_|exact A6|refine A3 ?_ ?_|exact A2|(refine A0 ?_ ?_ ?_;kernel_rfl;kernel_rfl)) <;> (try (conv=>whnf)))
 all_goals first
  | (exfalso;omega)
  | skip
 clear h1
 refine D8 (ι:=F4 × Nat × List UInt8 × Nat) (fun x=>⟨[(1, .str x.2.2.1),(2, .iptr (sL s)),(4, .ref 1 0),(8, .ref 3 0),(9, .ref 4 0)],6,[(1,some (.box [.str [], .str [], .i 0, .i 0, .i 0, .i 0, .i 0,C5, .i 0, .i 0, .i 0,C5])),(2,some (.box [.sl 2 (s.lists.map O7), .sl 7 (s.cols.map L5), .str x.1.prj, .str x.1.src, .i x.1.coh.op, .i x.1.coh.col, .i x.1.coh.code, .i x.1.coh.lo, .i x.1.coh.hi, .sl 6 (x.1.coh.kids.map D5), .i x.1.part, .i x.1.of, .i x.1.seed, .row 5 0 x.1.qs.length])),(3,some (.box [.ref 2 0])),(4,some (.box [.i x.2.1])),(5,some (.row E9 17 0 (x.1.qs.map C4)))]⟩) (fun x=>x.2.2.1.length < x.2.2.2 ∧ 1 ≤ x.2.1 ∧ x.2.1 + x.2.2.1.length ≤ 20001 ∧ x.1.qs.length ≤ x.2.1 ∧ Y6 s x.2.2.2 x.1 x.2.1 x.2.2.1 = (Z1,Z2,Z3)) (fun x=>x.2.2.1.length) (zD,1,t0,t0.length + 1) ⟨by dsimp only;omega,by dsimp only;omega,by dsimp only;omega,by dsimp only [zD];exact Nat.zero_le _,hZ⟩
  (by refine B8 (Z6 2 13 (e:=E9) (sz:=17) rfl rfl) ?_;refine B8 (X5 2 [.sl 2 (s.lists.map O7), .sl 7 (s.cols.map L5), .str [], .str [], .i 0, .i 0, .i 0, .i 0, .i 0, .sl 6 ([]:List (List AV)), .i 0, .i 0, .i 0, .row 5 0 0] rfl ⟨.refl _, .refl _, .refl _, .refl _, .refl _, .refl _, .refl _, .refl _, .refl _, .nil 6, .refl _, .refl _, .refl _, .refl _,trivial⟩) ?_;exact A5 h0 rfl ⟨rfl,rfl,rfl,rfl,rfl,trivial⟩ ⟨rfl,rfl,rfl,rfl,⟨0,rfl⟩,trivial⟩ rfl rfl rfl) (fun x hI=>?_)
 obtain ⟨d,n,t,f⟩:=x
 obtain ⟨i1,i2,i3,i4,i5⟩:=hI
 dsimp only at i1 i2 i3 i4 i5 ⊢
 clear hZ
 obtain ⟨f,rfl⟩:∃ g,f = g + 1:=⟨f - 1,by omega⟩
 rw [Y6] at i5
 by_cases hte:t = []
 ·rw [if_pos hte] at i5
  subst hte
  have h1:=DD s d
  by_cases hn4:n ≤ 4
  ·rw [if_pos hn4] at i5
   cases i5
   clear h1
   repeat' ((first | (refine F3 (id:=18) ⟨[(4, .ref 1 0),(5, .i n),(6, .i 11)],6,[(1,some (.box [.str [], .str [], .i 0, .i 0, .i 0, .i 0, .i 0,C5, .i 0, .i 0, .i 0,C5]))]⟩ ?_ ?_) |refine A1 ?_|refine S1 ?_|refine Z1 ?_|refine Z2 ?_|(refine And.intro ?_ ?_<;>intro h<;>try first|(exfalso;omega)|exact absurd rfl h)|refine Z3 ?_|refine Z4 ?_|intro el hel hbB|intro el hel|intro ex|refine Z5 ?_|(refine A8 ?_ ?_;exact ⟨by kernel_rfl,by decide⟩)|refine A7 ?_ ?_|exact A6|refine A3 ?_ ?_|exact A2|(refine A0 ?_ ?_ ?_;kernel_rfl;kernel_rfl)) <;> (try (conv=>whnf)))
   all_goals first
    | (exfalso;omega)
    | exact A5 h0 rfl ⟨rfl,rfl,rfl,trivial⟩ ⟨rfl,trivial⟩ rfl rfl rfl
    | exact Bu (rs:=[.cell 4 X0, .tmp 5, .tmp 6]) (vs:=[_,_,_]) rfl ⟨s3 rfl rfl rfl EV,⟨_,rfl, .refl _⟩,⟨_,rfl, .refl _⟩,trivial⟩ rfl
    | contradiction
  ·rw [if_neg hn4] at i5
   by_cases hd:U8 s d = 0
   ·rw [if_pos hd] at i5
    simp only [Prod.mk.injEq] at i5
    obtain ⟨rfl,rfl,rfl⟩:=i5
    rw [hd] at h1
    repeat' ((first | (refine E3 19 ?_;refine H6 (id:=19) (σ':=⟨[(2, .iptr (sL s)),(4, .ref 1 0),(8, .ref 3 0)],6,[(1,some (.box [.str [], .str [], .i 0, .i 0, .i 0, .i 0, .i 0,C5, .i 0, .i 0, .i 0,C5])),(3,some (.box [.iptr [.sl 2 (s.lists.map O7), .sl 7 (s.cols.map L5), .str d.prj, .str d.src, .i d.coh.op, .i d.coh.col, .i d.coh.code, .i d.coh.lo, .i d.coh.hi, .sl 6 (d.coh.kids.map D5), .i d.part, .i d.of, .i d.seed, .sl 17 (d.qs.map C4)]]))]⟩) (B8 (A5 (σ':=⟨[(2, .iptr (sL s)),(4, .ref 1 0),(8, .ref 3 0)],6,[(1,some (.box [.str [], .str [], .i 0, .i 0, .i 0, .i 0, .i 0,C5, .i 0, .i 0, .i 0,C5])),(2,some (.box [.sl 2 (s.lists.map O7), .sl 7 (s.cols.map L5), .str d.prj, .str d.src, .i d.coh.op, .i d.coh.col, .i d.coh.code, .i d.coh.lo, .i d.coh.hi, .sl 6 (d.coh.kids.map D5), .i d.part, .i d.of, .i d.seed, .sl 17 (d.qs.map C4)])),(3,some (.box [.ref 2 0]))]⟩) h0 rfl ⟨rfl,rfl,rfl,trivial⟩ ⟨rfl,rfl,rfl,trivial⟩ rfl rfl rfl) (A5 h0 rfl ⟨rfl,rfl,rfl,trivial⟩ ⟨rfl,rfl,trivial⟩ rfl rfl rfl)) ?_;refine F3 (id:=19) ⟨[(2, .iptr (sL s)),(4, .ref 1 0),(8, .ref 3 0),(14, .i 0)],6,[(1,some (.box [.str [], .str [], .i 0, .i 0, .i 0, .i 0, .i 0,C5, .i 0, .i 0, .i 0,C5])),(3,some (.box [.iptr [.sl 2 (s.lists.map O7), .sl 7 (s.cols.map L5), .str d.prj, .str d.src, .i d.coh.op, .i d.coh.col, .i d.coh.code, .i d.coh.lo, .i d.coh.hi, .sl 6 (d.coh.kids.map D5), .i d.part, .i d.of, .i d.seed, .sl 17 (d.qs.map C4)]]))]⟩ ?_ ?_) | refine B0 h1 ?_ |refine A1 ?_|refine S1 ?_|refine Z1 ?_|refine Z2 ?_|(refine And.intro ?_ ?_<;>intro h<;>try first|(exfalso;omega)|exact absurd rfl h)|refine Z3 ?_|refine Z4 ?_|intro el hel hbB|intro el hel|intro ex|refine Z5 ?_|(refine A8 ?_ ?_;exact ⟨by kernel_rfl,by decide⟩)|refine A7 ?_ ?_|exact A6|refine A3 ?_ ?_|exact A2|(refine A0 ?_ ?_ ?_;kernel_rfl;kernel_rfl)) <;> (try (conv=>whnf)))
    all_goals first
     | (exfalso;omega)
     | exact A5 h0 rfl ⟨rfl,rfl,rfl,rfl,trivial⟩ ⟨rfl,rfl,trivial⟩ rfl rfl rfl
     | exact Bu (rs:=[.cell 4 X0, .tmp 5, .tmp 6]) (vs:=[_,_,_]) rfl ⟨s3 rfl rfl rfl (.refl _),⟨_,rfl, .refl _⟩,⟨_,rfl, .refl _⟩,trivial⟩ rfl
     | contradiction
   ·rw [if_neg hd] at i5
    cases i5
    generalize U8 s d = e at *
    repeat' ((first | (refine E3 19 ?_;refine H6 (id:=19) (σ':=⟨[(2, .iptr (sL s)),(4, .ref 1 0),(8, .ref 3 0)],6,[(1,some (.box [.str [], .str [], .i 0, .i 0, .i 0, .i 0, .i 0,C5, .i 0, .i 0, .i 0,C5])),(3,some (.box [.iptr [.sl 2 (s.lists.map O7), .sl 7 (s.cols.map L5), .str d.prj, .str d.src, .i d.coh.op, .i d.coh.col, .i d.coh.code, .i d.coh.lo, .i d.coh.hi, .sl 6 (d.coh.kids.map D5), .i d.part, .i d.of, .i d.seed, .sl 17 (d.qs.map C4)]]))]⟩) (B8 (A5 (σ':=⟨[(2, .iptr (sL s)),(4, .ref 1 0),(8, .ref 3 0)],6,[(1,some (.box [.str [], .str [], .i 0, .i 0, .i 0, .i 0, .i 0,C5, .i 0, .i 0, .i 0,C5])),(2,some (.box [.sl 2 (s.lists.map O7), .sl 7 (s.cols.map L5), .str d.prj, .str d.src, .i d.coh.op, .i d.coh.col, .i d.coh.code, .i d.coh.lo, .i d.coh.hi, .sl 6 (d.coh.kids.map D5), .i d.part, .i d.of, .i d.seed, .sl 17 (d.qs.map C4)])),(3,some (.box [.ref 2 0]))]⟩) h0 rfl ⟨rfl,rfl,rfl,trivial⟩ ⟨rfl,rfl,rfl,trivial⟩ rfl rfl rfl) (A5 h0 rfl ⟨rfl,rfl,rfl,trivial⟩ ⟨rfl,rfl,trivial⟩ rfl rfl rfl)) ?_;refine F3 (id:=19) ⟨[(2, .iptr (sL s)),(4, .ref 1 0),(8, .ref 3 0),(14, .i e)],6,[(1,some (.box [.str [], .str [], .i 0, .i 0, .i 0, .i 0, .i 0,C5, .i 0, .i 0, .i 0,C5])),(3,some (.box [.iptr [.sl 2 (s.lists.map O7), .sl 7 (s.cols.map L5), .str d.prj, .str d.src, .i d.coh.op, .i d.coh.col, .i d.coh.code, .i d.coh.lo, .i d.coh.hi, .sl 6 (d.coh.kids.map D5), .i d.part, .i d.of, .i d.seed, .sl 17 (d.qs.map C4)]]))]⟩ ?_ ?_) | refine B0 h1 ?_ |refine A1 ?_|refine S1 ?_|refine Z1 ?_|refine Z2 ?_|(refine And.intro ?_ ?_<;>intro h<;>try first|(exfalso;omega)|exact absurd rfl h)|refine Z3 ?_|refine Z4 ?_|intro el hel hbB|intro el hel|intro ex|refine Z5 ?_|(refine A8 ?_ ?_;exact ⟨by kernel_rfl,by decide⟩)|refine A7 ?_ ?_|exact A6|refine A3 ?_ ?_|exact A2|(refine A0 ?_ ?_ ?_;kernel_rfl;kernel_rfl)) <;> (try (conv=>whnf)))
    all_goals first
     | (exfalso;omega)
     | exact A5 h0 rfl ⟨rfl,rfl,rfl,rfl,trivial⟩ ⟨rfl,rfl,trivial⟩ rfl rfl rfl
     | exact Bu (rs:=[.cell 4 X0, .tmp 5, .tmp 6]) (vs:=[_,_,_]) rfl ⟨s3 rfl rfl rfl EV,⟨_,rfl, .refl _⟩,⟨_,rfl, .refl _⟩,trivial⟩ rfl
     | contradiction
 rw [if_neg hte] at i5
 have c1:=v7 t [10] (by omega)
 rw [fB] at c1
 have lt1:=w8 (B6 10) t
 have lt2:=T8 (B6 10) t
 have lt3:((t.dropWhile (B6 10)).drop 1).length < t.length:=by
  rw [List.length_drop]
  have:0 < t.length:=List.length_pos_iff.2 hte
  omega
 have hqs:=bQ s d n (t.takeWhile (B6 10))
 by_cases hend:t.dropWhile (B6 10) = []
 ·rw [if_pos (.inl hend)] at i5
  cases i5
  rw [hend] at c1
  rw [show decide (¬ ([]:List UInt8) = []) = false from rfl] at c1
  generalize t.takeWhile (B6 10) = l at *
  repeat' ((first | (refine F3 (id:=15) ⟨[(4, .ref 1 0),(5, .i n),(6, .i 11)],6,[(1,some (.box [.str [], .str [], .i 0, .i 0, .i 0, .i 0, .i 0,C5, .i 0, .i 0, .i 0,C5]))]⟩ ?_ ?_) | refine B0 c1 ?_ |refine A1 ?_|refine S1 ?_|refine Z1 ?_|refine Z2 ?_|(refine And.intro ?_ ?_<;>intro h<;>try first|(exfalso;omega)|exact absurd rfl h)|refine Z3 ?_|refine Z4 ?_|intro el hel hbB|intro el hel|intro ex|refine Z5 ?_|(refine A8 ?_ ?_;exact ⟨by kernel_rfl,by decide⟩)|refine A7 ?_ ?_|exact A6|refine A3 ?_ ?_|exact A2|(refine A0 ?_ ?_ ?_;kernel_rfl;kernel_rfl) | refine EH rfl rfl ?_ | refine EG rfl rfl ?_) <;> (try (conv=>whnf)))
  all_goals first
   | (exfalso;omega)
   | exact A5 h0 rfl ⟨rfl,rfl,rfl,trivial⟩ ⟨rfl,trivial⟩ rfl rfl rfl
   | exact Bu (rs:=[.cell 4 X0, .tmp 5, .tmp 6]) (vs:=[_,_,_]) rfl ⟨s3 rfl rfl rfl EV,⟨_,rfl, .refl _⟩,⟨_,rfl, .refl _⟩,trivial⟩ rfl
   | contradiction
 have hend2:decide (t.dropWhile (B6 10) ≠ []) = true:=decide_eq_true hend
 rw [hend2] at c1
 unfold l6 at i5 hqs
 generalize (t.dropWhile (B6 10)).drop 1 = t2 at *
 by_cases hn4:n ≤ 4
 ·simp only [if_pos hn4] at i5 hqs
  have c2:=RQ s d n ⟨i2,hn4⟩ (t.takeWhile (B6 10)) (by omega)
  generalize t.takeWhile (B6 10) = l at *
  generalize L6 s d n l = R at *
  obtain ⟨d2,b⟩:=R
  dsimp only at c2 i5 hqs
  cases b with
  | false =>
    rw [if_pos (.inr rfl)] at i5
    cases i5
    repeat' ((first | (refine F3 (id:=15) ⟨[(4, .ref 1 0),(5, .i n),(6, .i 11)],6,[(1,some (.box [.str [], .str [], .i 0, .i 0, .i 0, .i 0, .i 0,C5, .i 0, .i 0, .i 0,C5]))]⟩ ?_ ?_) | refine B0 c1 ?_ |refine A1 ?_|refine S1 ?_|refine Z1 ?_|refine Z2 ?_|(refine And.intro ?_ ?_<;>intro h<;>try first|(exfalso;omega)|exact absurd rfl h)|refine Z3 ?_|refine Z4 ?_|intro el hel hbB|intro el hel|intro ex|refine Z5 ?_|(refine A8 ?_ ?_;exact ⟨by kernel_rfl,by decide⟩)|refine A7 ?_ ?_|exact A6|refine A3 ?_ ?_|exact A2|(refine A0 ?_ ?_ ?_;kernel_rfl;kernel_rfl) | refine EH rfl rfl ?_ | refine EG rfl rfl ?_ | (refine ⟨?_⟩;refine Rc [2,5,3,4] [0,0,0,0] c2 rfl rfl rfl rfl rfl rfl ⟨rfl,rfl,rfl,rfl,trivial⟩ rfl rfl rfl rfl rfl ?_)) <;> (try (conv=>whnf)))
    all_goals first
     | (exfalso;omega)
     | exact A5 h0 rfl ⟨rfl,rfl,rfl,trivial⟩ ⟨rfl,trivial⟩ rfl rfl rfl
     | exact Bu (rs:=[.cell 4 X0, .tmp 5, .tmp 6]) (vs:=[_,_,_]) rfl ⟨s3 rfl rfl rfl EV,⟨_,rfl, .refl _⟩,⟨_,rfl, .refl _⟩,trivial⟩ rfl
     | contradiction
  | true =>
    rw [if_neg (by rintro (h | h);(exact hend h);cases h)] at i5
    clear hend2 hend
    have hn5:(n:Int) ≤ 20001:=by omega
    have hA:t2.length < f:=by omega
    have hB:1 ≤ n + 1:=by omega
    have hC:n + 1 + t2.length ≤ 20001:=by omega
    have hD:d2.qs.length ≤ n + 1:=by omega
    have hE:(((n + 1:Nat):Int)) = (n:Int) + 1:=by omega
    repeat' ((first | refine B0 c1 ?_ | (refine G2 ?_ ?_;(clear i5 hqs c1;constructor <;> omega)) |refine A1 ?_|refine S1 ?_|refine Z1 ?_|refine Z2 ?_|(refine And.intro ?_ ?_<;>intro h<;>try first|(exfalso;omega)|exact absurd rfl h)|refine Z3 ?_|refine Z4 ?_|intro el hel hbB|intro el hel|intro ex|refine Z5 ?_|(refine A8 ?_ ?_;exact ⟨by kernel_rfl,by decide⟩)|refine A7 ?_ ?_|exact A6|refine A3 ?_ ?_|exact A2|(refine A0 ?_ ?_ ?_;kernel_rfl;kernel_rfl) | refine EH rfl rfl ?_ | refine EG rfl rfl ?_ | (refine ⟨?_⟩;refine Rc [2,5,3,4] [0,0,0,0] c2 rfl rfl rfl rfl rfl rfl ⟨rfl,rfl,rfl,rfl,trivial⟩ rfl rfl rfl rfl rfl ?_)) <;> (try (conv=>whnf)))
    all_goals first
     | (exfalso;omega)
     | exact ⟨(d2,n + 1,t2,f),⟨hA,hB,hC,hD,i5⟩,lt3,A5 h0 rfl ⟨rfl,rfl,rfl,rfl,rfl,trivial⟩ ⟨rfl,rfl,rfl,congrArg (fun z:Int=>H4.box [.i z]) hE,⟨_,rfl⟩,trivial⟩ rfl rfl rfl⟩
     | contradiction
 ·simp only [if_neg hn4] at i5 hqs
  have c2:=MQ s hr0 d (t.takeWhile (B6 10)) (by omega) (by omega)
  generalize t.takeWhile (B6 10) = l at *
  generalize DY s d l = R at *
  obtain ⟨d2,b⟩:=R
  dsimp only at c2 i5 hqs
  cases b with
  | false =>
    rw [if_pos (.inr rfl)] at i5
    cases i5
    repeat' ((first | (refine F3 (id:=15) ⟨[(4, .ref 1 0),(5, .i n),(6, .i 11)],6,[(1,some (.box [.str [], .str [], .i 0, .i 0, .i 0, .i 0, .i 0,C5, .i 0, .i 0, .i 0,C5]))]⟩ ?_ ?_) | refine B0 c1 ?_ |refine A1 ?_|refine S1 ?_|refine Z1 ?_|refine Z2 ?_|(refine And.intro ?_ ?_<;>intro h<;>try first|(exfalso;omega)|exact absurd rfl h)|refine Z3 ?_|refine Z4 ?_|intro el hel hbB|intro el hel|intro ex|refine Z5 ?_|(refine A8 ?_ ?_;exact ⟨by kernel_rfl,by decide⟩)|refine A7 ?_ ?_|exact A6|refine A3 ?_ ?_|exact A2|(refine A0 ?_ ?_ ?_;kernel_rfl;kernel_rfl) | refine EH rfl rfl ?_ | refine EG rfl rfl ?_ | (refine ⟨?_⟩;refine Re [2,5] [0,0] c2 rfl rfl rfl rfl rfl rfl ⟨rfl,rfl,trivial⟩ rfl rfl rfl rfl rfl ?_)) <;> (try (conv=>whnf)))
    all_goals first
     | (exfalso;omega)
     | exact A5 h0 rfl ⟨rfl,rfl,rfl,trivial⟩ ⟨rfl,trivial⟩ rfl rfl rfl
     | exact Bu (rs:=[.cell 4 X0, .tmp 5, .tmp 6]) (vs:=[_,_,_]) rfl ⟨s3 rfl rfl rfl EV,⟨_,rfl, .refl _⟩,⟨_,rfl, .refl _⟩,trivial⟩ rfl
     | contradiction
  | true =>
    rw [if_neg (by rintro (h | h);(exact hend h);cases h)] at i5
    clear hend2 hend
    have hn5:(n:Int) ≤ 20001:=by omega
    have hA:t2.length < f:=by omega
    have hB:1 ≤ n + 1:=by omega
    have hC:n + 1 + t2.length ≤ 20001:=by omega
    have hD:d2.qs.length ≤ n + 1:=by omega
    have hE:(((n + 1:Nat):Int)) = (n:Int) + 1:=by omega
    repeat' ((first | refine B0 c1 ?_ | (refine G2 ?_ ?_;(clear i5 hqs c1;constructor <;> omega)) |refine A1 ?_|refine S1 ?_|refine Z1 ?_|refine Z2 ?_|(refine And.intro ?_ ?_<;>intro h<;>try first|(exfalso;omega)|exact absurd rfl h)|refine Z3 ?_|refine Z4 ?_|intro el hel hbB|intro el hel|intro ex|refine Z5 ?_|(refine A8 ?_ ?_;exact ⟨by kernel_rfl,by decide⟩)|refine A7 ?_ ?_|exact A6|refine A3 ?_ ?_|exact A2|(refine A0 ?_ ?_ ?_;kernel_rfl;kernel_rfl) | refine EH rfl rfl ?_ | refine EG rfl rfl ?_ | (refine ⟨?_⟩;refine Re [2,5] [0,0] c2 rfl rfl rfl rfl rfl rfl ⟨rfl,rfl,trivial⟩ rfl rfl rfl rfl rfl ?_)) <;> (try (conv=>whnf)))
    all_goals first
     | (exfalso;omega)
     | exact ⟨(d2,n + 1,t2,f),⟨hA,hB,hC,hD,i5⟩,lt3,A5 h0 rfl ⟨rfl,rfl,rfl,rfl,rfl,trivial⟩ ⟨rfl,rfl,rfl,congrArg (fun z:Int=>H4.box [.i z]) hE,⟨_,rfl⟩,trivial⟩ rfl rfl rfl⟩
     | contradiction
end Go.Proofs.YthkklceofokkmaaGreatDoor
namespace Go.Av
open Go Go.RowKit
section
variable {P:Program} {E:Env} {n:Nat} {ops:Array Oper} {rest:List Oper} {σ:St} {K:St → Prop} {d:Nat} {ty:TypeId} {pos:String} {after:Array Edge} {x y:Operand} {L:List AV}
theorem DE {T:TypeId} {l:List Value} [tz:J8 P T l] (hd:Nat.blt d n = true)
  (k:B7 P E n ops rest ((σ.new (.bx (T + 1) (l.map b9))).put d (.ref σ.nx 0)) K):B7 P E n ops (⟨some d, .alloc T,ty,pos,after,none⟩ :: rest) σ K :=
 AO hd (fun θ a w h=>by
  obtain ⟨i,z,h1,h2,h3⟩:=tz.out
  refine ⟨.pointer (some ⟨w.heap.size,0,none⟩), .pointer (some ⟨w.heap.size,0,none⟩),w.alloc (.cells l.toArray T),by simp [execOp,Instr.alloc,newVar,Sem.run_bind,e9 h1 h2,h3,GB],S0 _ _,KJ,fun le=>?_⟩
  refine ⟨⟨w.heap.size,l.toArray,⟨T, .inr rfl⟩,by simp [cx,F5],heap_alloc_new w _,by simp,fun j u z hu hz=>?_⟩, .ref _ _ _ (by simp [cx,St.new]) (by simp [cx,F5])⟩
  simp at hu hz
  obtain ⟨v,hv,rfl⟩:=hu
  rw [hz] at hv
  cases hv
  exact .im (FN _)) k
theorem Vz {i ver len e:Nat} {T:Nat} {l:List (List AV)} (hx:G6 σ x = some (.row i ver len)) (hb:B4 σ.hp i = some (.row e 1 ver l)) (h0:l ≠ []) (hd:Nat.blt d n = true)
  (k:B7 P E n ops rest (σ.put d (.elt i ver 0 0)) K):X4 P E n ops ⟨some d, .call ⟨.builtin .unsafeSliceData,⟨[x]⟩,⟨[T]⟩⟩,ty,pos,after,none⟩ rest L σ K :=
 ⟨FP (F8 fun _ _ _ θ a w h=>by
  obtain ⟨hl,hv,hnx⟩:=x9 (h.rel hx) hb
  obtain ⟨xs,hown,_⟩:=h.row hb
  rcases hown.2 with ⟨_,hn⟩ | ⟨g,cap,cur,hθ,_,_,hc,_⟩
  ·exact absurd (List.eq_nil_of_length_eq_zero hn) h0
  ·have hpos:0 < l.length:=List.length_pos_iff.2 h0
   refine ⟨.pointer (some ⟨g,0,none⟩),?_, .elt i ver 0 0 _ hnx fun e2 sz2 v2 l2 hl2=>?_⟩
   ·rw [V6,hv,show (kx E θ σ.nx σ.hp w).θ i = θ i from rfl,hθ]
    simp [builtin,Lib.run_unsafeSliceData_row w _ _ _ _ _ (by omega:cap ≠ 0),Sem.run_bind,Sem.run_pure]
   ·have:B4 σ.hp i = some (.row e2 sz2 v2 l2):=hl2
    rw [hb] at this
    cases this
    exact ⟨Nat.le_refl _,fun _=>⟨g,_,cap,hθ,by simp⟩⟩) hd k⟩
theorem YW {i ver e m:Nat} {T T2:Nat} {s:List UInt8} (hx:G6 σ x = some (.elt i ver 0 0)) (hy:G6 σ y = some (.i m)) (hb:B4 σ.hp i = some (.row e 1 ver (O5 s))) (hm:s.length = m) (h0:s ≠ []) (hbe:e < U5)
  (ht:P.underlying T = some (.pointer e)) (hc:P.cellsOf e = 1) (hd:Nat.blt d n = true)
  (k:B7 P E n ops rest ((σ.set i (.row e 1 (ver + 1) [])).put d (.str s)) K):X4 P E n ops ⟨some d, .call ⟨.builtin .unsafeString,⟨[x,y]⟩,⟨[T,T2]⟩⟩,ty,pos,after,none⟩ rest L σ K:=by
 refine ⟨?_⟩
 intro a w ⟨θ,hs⟩
 subst hm
 have h:=hs.evT
 obtain ⟨g,m,cap,hθ,hv,hnx⟩:=Bd (h.rel hx) hb
 have hyv:=(h.rel hy).val
 obtain ⟨xs,hown0,_,hr⟩:=h.row hb
 have hown:=hown0.row hbe
 rcases hown.2 with ⟨hn,_⟩ | ⟨g',cap',cur,hv',_,hg,hc1,hc2,hc3,hc4⟩
 ·rw [show (kx E θ σ.nx σ.hp w).θ i = θ i from rfl] at *
  rw [hn] at hθ;cases hθ
 ·have hθ':θ i = .slice (some ⟨g,0,none⟩) m cap:=hθ
  rw [hθ'] at hv'
  cases hv'
  have hbl:(O5 s).length = s.length:=by simp [O5]
  have hcell:∀ (j:Nat) z,s[j]? = some z → w.cell? ((⟨g,0,none⟩:Addr).add j) = some (.int .u8 z.toNat):=by
   intro j z hz
   obtain ⟨y',hy',him⟩:=hr j [.v (.int .u8 z.toNat)] (by simp [O5,hz]) 0 _ rfl
   cases him
   have hown':=hown
   rw [hθ'] at hown'
   exact hown'.cells (g:=g) rfl j _ (by simpa using hy')
  have hsl:s.length ≤ cur.size:=by rw [hc3];omega
  have hrun:=Lib.run_unsafeString_row (P:=P) w T T2 ty e ht hc g cur.size (by simp [World.shape?,hg]) s h0 hsl (by unfold maxLen at hc2;omega) hcell
  have hex:(execOp a.eval ⟨some d, .call ⟨.builtin .unsafeString, #[x,y], #[T,T2]⟩,ty,pos,after,none⟩).run P w = .ok (.value (.string ⟨s.toArray⟩)) (w.freeze ⟨g,0,none⟩ s.length):=by
   rw [m8,hv,hyv]
   simp only [Nat.zero_mul,Nat.add_zero]
   simp [builtin,hrun,Sem.run_bind,Sem.run_pure]
  unfold wpList
  rw [if_pos (by simp [Region.wanted])]
  left
  have hlt:g < w.heap.size:=(Array.getElem?_eq_some_iff.1 hg).1
  have hf:=Lib.below_freeze (B:=g) (Below.refl g w) (p:=⟨g,0,none⟩) (Nat.le_refl _) s.length
  have hfz:∀ k,k ≠ g → (w.freeze ⟨g,0,none⟩ s.length).heap[k]? = w.heap[k]?:=by
   intro k hk
   unfold World.freeze
   split
   ·rfl
   ·simp only [Array.getElem?_modify]
    rw [if_neg (fun e=>hk e.symm)]
  simp only [Oper.wp,hex,Oper.upon]
  have ht2:=hs.turn (hkp:=fun _ _ _ _ h hk _=>by cases h;unfold U5 at hbe;unfold M6 at hk;omega) (b':=.row e 1 (ver + 1) []) (v':=.slice none 0 0) (w':=w.freeze ⟨g,0,none⟩ s.length) hb hf.os hf.tape hf.output hf.size (fun k _ hne=>hfz k fun e=>hne (by rw [hθ',e];rfl)) (fun k hk=>by cases hk)
   ⟨⟨_,_,_,hθ'⟩,e,ver,_,rfl, .inl (Nat.lt_succ_self _)⟩ (fun le=>⟨[],⟨by simp, .inl ⟨by simp [cx,F5],rfl⟩⟩,(fun el hel=>by cases hel),fun k el hk=>by simp at hk⟩)
  exact k _ _ ⟨_,ht2.put (Nat.blt_eq ▸ hd) (.im (.str _))⟩
end
end Go.Av

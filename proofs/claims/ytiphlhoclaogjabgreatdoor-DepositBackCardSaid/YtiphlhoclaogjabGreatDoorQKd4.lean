/- Chapter 3: the program's reader of files: any line. -/
import Derived.Test.YtiphlhoclaogjabGreatDoorQKd3
import Derived.Test.YtiphlhoclaogjabGreatDoorQKc3
set_option linter.unusedVariables false
set_option linter.unnecessarySimpa false
set_option linter.unusedSimpArgs false
namespace Go.Proofs.YtiphlhoclaogjabGreatDoor
open Go Go.Av
attribute [local irreducible] D1 B5 D5 D3 DQ D7 E0 St.le B3 B6
set_option maxRecDepth 100000
theorem SK {ws:List (List UInt8)} {l:List Int} (h:N3 ws = some l):l.length = ws.length:=Dq (f:=H8) (by rw [← KD];exact h)
theorem SL (r:D6) (w:List (List UInt8)) (hn:r.cols.length ≤ 20000) (hL:w.length ≤ 20001) (hwl:∀ z ∈ w,z.length ≤ 20000):B6 Tryz.prog 69 4 (R4 r) [.ref 0 0, .sl 1 (w.map E2)] 4 (R4 (Y7 r w).1) (.b (Y7 r w).2):=by
 unfold Y7
 by_cases h:r.st = 2 ∨ w.length < 2
 ·rw [if_pos h];exact Ym r w h
 rw [if_neg h]
 have hst:¬ r.st = 2:=fun g=>h (.inl g)
 have hl:¬ w.length < 2:=fun g=>h (.inr g)
 by_cases hm:Dp w
 ·rw [if_pos hm]
  obtain ⟨m1,m2,m3⟩:=hm
  exact SH r w hst hl m1 m2 m3
 rw [if_neg hm]
 unfold CS
 by_cases h1:B9 w 0 = W2
 ·rw [if_pos h1];exact Yn r w hn hst hl h1
 rw [if_neg h1]
 by_cases h2:B9 w 0 = M3
 ·rw [if_pos h2]
  by_cases h3:w.length = 3
  ·rw [if_pos h3]
   exact XC r w hn hst h2 h3 (hwl _ (List.mem_of_getElem? (H1 (ws:=w) (i:=2) (by omega))))
  ·rw [if_neg h3];exact Up r w hn hst hl h2 h3
 rw [if_neg h2]
 have h6:¬ (w.length < 6 ∨ ¬ B9 w 4 = F5 ∧ ¬ B9 w 4 = G2):=fun g=>hm ⟨h1,h2,g⟩
 have h7:6 ≤ w.length:=by
  have:=fun g=>h6 (.inl g)
  omega
 have h8:B9 w 4 = F5 ∨ B9 w 4 = G2:=by
  by_cases g:B9 w 4 = F5
  ·exact .inl g
  ·exact .inr (Decidable.byContradiction fun g2=>h6 (.inr ⟨g,g2⟩))
 cases hns:N3 ((w.drop 2).take 2 ++ w.drop 5) with
 | none=>exact XD r w hn hst h1 h2 h7 hL hwl h8 hns
 | some n =>
   have hlen:=SK hns
   rw [List.length_append,List.length_take,List.length_drop,List.length_drop] at hlen
   match n,hlen,hns with
   | a :: b :: ws,_,hns=>exact XE r w hn hst h1 h2 h7 hL hwl h8 a b ws hns
   | [],hlen,_=>simp only [List.length_nil] at hlen;omega
   | [a],hlen,_=>simp only [List.length_cons,List.length_nil] at hlen;omega
theorem Yo (r:D6) (w:List (List UInt8)) (hn:r.cols.length ≤ 20000) (hm:r.rows.length ≤ 20000) (hwl:∀ z ∈ w,z.length ≤ 20000):B6 Tryz.prog 70 4 (b7 r) [.ref 0 0, .sl 1 (w.map E2)] 4 (b7 (z6 r w).1) (.b (z6 r w).2):=by
 by_cases h:w.length = r.cols.length + 1
 ·exact SJ r w hn hm h hwl
 ·unfold z6
  rw [if_pos h]
  exact Uq r w hn h
theorem XF (r:D6) (w:List (List UInt8)) (hw:0 < w.length) (hst:r.st = 0) (hn:r.lists.length ≤ 20000) (hm:∀ l ∈ r.lists,l.2.length ≤ 20000) (hwl:∀ z ∈ w,z.length ≤ 20000):B6 Tryz.prog 68 4 (AD r) [.ref 0 0, .sl 1 (w.map E2)] 4 (AD (a7 r w).1) (.b (a7 r w).2):=by
 unfold a7
 rw [if_neg (show ¬ ¬ r.st = 0 from fun g=>g hst)]
 by_cases h1:B9 w 0 = G6
 ·rw [if_pos h1]
  by_cases h2:w.length = 2
  ·rw [if_pos h2];exact SE r w hn hst h1 h2
  ·rw [if_neg h2];exact Uo r w hw hst h1 h2
 ·rw [if_neg h1]
  by_cases h2:¬ w.length = 3 ∨ r.lists = []
  ·rw [if_pos h2];exact SF r w hw hst h1 h2
  ·rw [if_neg h2]
   have h3:w.length = 3:=Decidable.of_not_not fun g=>h2 (.inl g)
   have hne:r.lists ≠ []:=fun g=>h2 (.inr g)
   obtain ⟨X,l,hX⟩:∃ X l,r.lists = X ++ [l]:=⟨r.lists.dropLast,r.lists.getLast hne,(List.dropLast_concat_getLast hne).symm⟩
   obtain ⟨ls,cs,rs,st⟩:=r
   dsimp only at *
   subst hX
   subst hst
   rw [CR]
   exact Pq X l cs rs w (by rw [List.length_append] at hn;omega) (hm l (by simp)) h1 h3 (hwl _ (List.mem_of_getElem? (H1 (ws:=w) (i:=2) (by omega))))
abbrev Mj (w:List (List UInt8)):Prop:=B9 w 0 = G6 ∨ B9 w 0 = X0
set_option maxHeartbeats 4000000 in
theorem XG (r:D6) (w:List (List UInt8)) (hw:0 < w.length) (hst:r.st = 0) (hn:r.lists.length ≤ 20000) (hm:∀ l ∈ r.lists,l.2.length ≤ 20000) (hwl:∀ z ∈ w,z.length ≤ 20000) (hL:Mj w):B6 Tryz.prog 40 4 (AD r) [.ref 0 0, .sl 1 (w.map E2)] 4 (AD (H4 r w).1) (.b (H4 r w).2):=by
 unfold H4
 rw [if_pos hL]
 have hq:=XF r w hw hst hn hm hwl
 have g0:=H1 (ws:=w) (i:=0) hw
 generalize a7 r w = R at *
 obtain ⟨r2,ok⟩:=R
 obtain ⟨ls,cs,rs,st⟩:=r
 obtain ⟨ls2,cs2,rs2,st2⟩:=r2
 dsimp only [AD,Z7] at *
 unfold Mj at hL
 generalize B9 w 0 = w0 at *
 rcases hL with rfl | rfl
 ·refine M6 Tryz.func40 26 fun E h0=>?_
  repeat' ((first | (refine A7 (x:=G6) g0 (by omega) ?_) |refine A1 ?_|refine S1 ?_|refine Z1 ?_|refine Z2 ?_|(refine And.intro ?_ ?_<;>intro h<;>try first|(exfalso;omega)|exact absurd rfl h)|refine Z3 ?_|refine Z4 ?_|intro el hel hbB|intro el hel|intro ex|refine Z5 ?_|(refine A6 ?_ ?_;exact ⟨by kernel_rfl,by decide⟩)|refine A5 ?_ ?_|exact A4|refine A3 ?_ ?_|exact A2|(refine A0 ?_ ?_ ?_;kernel_rfl;kernel_rfl) | refine nc [0,1,2,3] [0,0,0,0] hq rfl rfl rfl ⟨rfl,rfl,rfl,rfl,trivial⟩ ?_) <;> (try (conv=>whnf)))
  all_goals first
   | contradiction
   | exact C9 (A8 h0 rfl ⟨rfl,trivial⟩ ⟨rfl,⟨_,rfl⟩,⟨_,rfl⟩,⟨_,rfl⟩,trivial⟩ rfl rfl rfl)
 ·refine M6 Tryz.func40 26 fun E h0=>?_
  repeat' ((first | (refine A7 (x:=X0) g0 (by omega) ?_) |refine A1 ?_|refine S1 ?_|refine Z1 ?_|refine Z2 ?_|(refine And.intro ?_ ?_<;>intro h<;>try first|(exfalso;omega)|exact absurd rfl h)|refine Z3 ?_|refine Z4 ?_|intro el hel hbB|intro el hel|intro ex|refine Z5 ?_|(refine A6 ?_ ?_;exact ⟨by kernel_rfl,by decide⟩)|refine A5 ?_ ?_|exact A4|refine A3 ?_ ?_|exact A2|(refine A0 ?_ ?_ ?_;kernel_rfl;kernel_rfl) | refine nc [0,1,2,3] [0,0,0,0] hq rfl rfl rfl ⟨rfl,rfl,rfl,rfl,trivial⟩ ?_) <;> (try (conv=>whnf)))
  all_goals first
   | contradiction
   | exact C9 (A8 h0 rfl ⟨rfl,trivial⟩ ⟨rfl,⟨_,rfl⟩,⟨_,rfl⟩,⟨_,rfl⟩,trivial⟩ rfl rfl rfl)
set_option maxHeartbeats 8000000 in
theorem XH (r:D6) (w:List (List UInt8)) (hw:0 < w.length) (hn:r.cols.length ≤ 20000) (hm:r.rows.length ≤ 20000) (hL:w.length ≤ 20001) (hwl:∀ z ∈ w,z.length ≤ 20000) (hl:Mj w → ¬ r.st = 0) (hrow:¬ B9 w 0 = L2):B6 Tryz.prog 40 4 (R4 r) [.ref 0 0, .sl 1 (w.map E2)] 4 (R4 (H4 r w).1) (.b (H4 r w).2):=by
 have g0:=H1 (ws:=w) (i:=0) hw
 unfold H4
 by_cases h1:Mj w
 ·rw [if_pos h1]
  have e:a7 r w = (r,false):=by unfold a7;rw [if_pos (hl h1)]
  have hq:=Un r w (hl h1)
  rw [e]
  clear e hl
  obtain ⟨ls,cs,rs,st⟩:=r
  dsimp only [R4,Z7] at *
  unfold Mj at h1
  generalize B9 w 0 = w0 at *
  refine M6 Tryz.func40 26 fun E h0=>?_
  repeat' ((first | (refine A7 (x:=w0) g0 (by omega) ?_) |refine A1 ?_|refine S1 ?_|refine Z1 ?_|refine Z2 ?_|(refine And.intro ?_ ?_<;>intro h<;>try first|(exfalso;omega)|exact absurd rfl h)|refine Z3 ?_|refine Z4 ?_|intro el hel hbB|intro el hel|intro ex|refine Z5 ?_|(refine A6 ?_ ?_;exact ⟨by kernel_rfl,by decide⟩)|refine A5 ?_ ?_|exact A4|refine A3 ?_ ?_|exact A2|(refine A0 ?_ ?_ ?_;kernel_rfl;kernel_rfl) | refine nc [0,1,2,3] [0,0,0,0] hq rfl rfl rfl ⟨rfl,rfl,rfl,rfl,trivial⟩ ?_) <;> (try (conv=>whnf)))
  all_goals first
   | exact C9 (A8 h0 rfl ⟨rfl,trivial⟩ ⟨rfl,⟨_,rfl⟩,⟨_,rfl⟩,⟨_,rfl⟩,trivial⟩ rfl rfl rfl)
   | (exfalso;rcases h1 with g | g;exact (show ¬ w0 = G6 by assumption) g;exact (show ¬ w0 = X0 by assumption) g)
 rw [if_neg h1]
 have n1:¬ B9 w 0 = G6:=fun g=>h1 (.inl g)
 have n2:¬ B9 w 0 = X0:=fun g=>h1 (.inr g)
 clear h1 hl
 by_cases h2:B9 w 0 = W2 ∨ B9 w 0 = M3 ∨ B9 w 0 = I5
 ·rw [if_pos h2]
  have hq:=SL r w hn hL hwl
  generalize Y7 r w = R at *
  obtain ⟨r2,ok⟩:=R
  obtain ⟨ls,cs,rs,st⟩:=r
  obtain ⟨ls2,cs2,rs2,st2⟩:=r2
  dsimp only [R4,Z7] at *
  generalize B9 w 0 = w0 at *
  refine M6 Tryz.func40 26 fun E h0=>?_
  repeat' ((first | (refine A7 (x:=w0) g0 (by omega) ?_) |refine A1 ?_|refine S1 ?_|refine Z1 ?_|refine Z2 ?_|(refine And.intro ?_ ?_<;>intro h<;>try first|(exfalso;omega)|exact absurd rfl h)|refine Z3 ?_|refine Z4 ?_|intro el hel hbB|intro el hel|intro ex|refine Z5 ?_|(refine A6 ?_ ?_;exact ⟨by kernel_rfl,by decide⟩)|refine A5 ?_ ?_|exact A4|refine A3 ?_ ?_|exact A2|(refine A0 ?_ ?_ ?_;kernel_rfl;kernel_rfl) | refine nc [0,1,2,3] [0,0,0,0] hq rfl rfl rfl ⟨rfl,rfl,rfl,rfl,trivial⟩ ?_) <;> (try (conv=>whnf)))
  all_goals first
   | exact C9 (A8 h0 rfl ⟨rfl,trivial⟩ ⟨rfl,⟨_,rfl⟩,⟨_,rfl⟩,⟨_,rfl⟩,trivial⟩ rfl rfl rfl)
   | (exfalso;exact n1 (by assumption))
   | (exfalso;exact n2 (by assumption))
   | (exfalso;rcases h2 with g | g | g;exact (show ¬ w0 = W2 by assumption) g;exact (show ¬ w0 = M3 by assumption) g;exact (show ¬ w0 = I5 by assumption) g)
 rw [if_neg h2]
 have n3:¬ B9 w 0 = W2:=fun g=>h2 (.inl g)
 have n4:¬ B9 w 0 = M3:=fun g=>h2 (.inr (.inl g))
 have n5:¬ B9 w 0 = I5:=fun g=>h2 (.inr (.inr g))
 clear h2
 rw [if_neg hrow]
 have h3:=hrow
 ·obtain ⟨ls,cs,rs,st⟩:=r
  dsimp only [R4,Z7] at *
  generalize B9 w 0 = w0 at *
  refine M6 Tryz.func40 26 fun E h0=>?_
  repeat' ((first | (refine A7 (x:=w0) g0 (by omega) ?_) |refine A1 ?_|refine S1 ?_|refine Z1 ?_|refine Z2 ?_|(refine And.intro ?_ ?_<;>intro h<;>try first|(exfalso;omega)|exact absurd rfl h)|refine Z3 ?_|refine Z4 ?_|intro el hel hbB|intro el hel|intro ex|refine Z5 ?_|(refine A6 ?_ ?_;exact ⟨by kernel_rfl,by decide⟩)|refine A5 ?_ ?_|exact A4|refine A3 ?_ ?_|exact A2|(refine A0 ?_ ?_ ?_;kernel_rfl;kernel_rfl)) <;> (try (conv=>whnf)))
  all_goals first
   | exact C9 (A8 h0 rfl ⟨rfl,trivial⟩ ⟨rfl,⟨_,rfl⟩,⟨_,rfl⟩,⟨_,rfl⟩,trivial⟩ rfl rfl rfl)
   | (exfalso;exact n1 (by assumption))
   | (exfalso;exact n2 (by assumption))
   | (exfalso;exact n3 (by assumption))
   | (exfalso;exact n4 (by assumption))
   | (exfalso;exact n5 (by assumption))
   | (exfalso;exact h3 (by assumption))
set_option maxHeartbeats 8000000 in
theorem XI (r:D6) (w:List (List UInt8)) (hw:0 < w.length) (hn:r.cols.length ≤ 20000) (hm:r.rows.length ≤ 20000) (hwl:∀ z ∈ w,z.length ≤ 20000) (hrow:B9 w 0 = L2):B6 Tryz.prog 40 4 (b7 r) [.ref 0 0, .sl 1 (w.map E2)] 4 (b7 (H4 r w).1) (.b (H4 r w).2):=by
 have g0:=H1 (ws:=w) (i:=0) hw
 unfold H4
 rw [hrow,if_neg (show ¬ (L2 = G6 ∨ L2 = X0) by decide),if_neg (show ¬ (L2 = W2 ∨ L2 = M3 ∨ L2 = I5) by decide),if_pos (show L2 = L2 from rfl)]
 rw [hrow] at g0
 clear hrow
 have hq:=Yo r w hn hm hwl
 generalize z6 r w = R at *
 obtain ⟨r2,ok⟩:=R
 obtain ⟨ls,cs,rs,st⟩:=r
 obtain ⟨ls2,cs2,rs2,st2⟩:=r2
 dsimp only [b7,Z7] at *
 refine M6 Tryz.func40 26 fun E h0=>?_
 repeat' ((first | (refine A7 (x:=L2) g0 (by omega) ?_) |refine A1 ?_|refine S1 ?_|refine Z1 ?_|refine Z2 ?_|(refine And.intro ?_ ?_<;>intro h<;>try first|(exfalso;omega)|exact absurd rfl h)|refine Z3 ?_|refine Z4 ?_|intro el hel hbB|intro el hel|intro ex|refine Z5 ?_|(refine A6 ?_ ?_;exact ⟨by kernel_rfl,by decide⟩)|refine A5 ?_ ?_|exact A4|refine A3 ?_ ?_|exact A2|(refine A0 ?_ ?_ ?_;kernel_rfl;kernel_rfl) | refine nc [0,1,2,3] [0,0,0,0] hq rfl rfl rfl ⟨rfl,rfl,rfl,rfl,trivial⟩ ?_) <;> (try (conv=>whnf)))
 all_goals first
  | contradiction
  | exact C9 (A8 h0 rfl ⟨rfl,trivial⟩ ⟨rfl,⟨_,rfl⟩,⟨_,rfl⟩,⟨_,rfl⟩,trivial⟩ rfl rfl rfl)
end Go.Proofs.YtiphlhoclaogjabGreatDoor

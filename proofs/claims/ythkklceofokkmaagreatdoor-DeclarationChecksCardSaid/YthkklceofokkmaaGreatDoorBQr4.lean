/- Chapter 8: the program's reader: models, curves. -/
import Derived.Test.YthkklceofokkmaaGreatDoorBQr3
set_option linter.unusedVariables false
set_option linter.unnecessarySimpa false
set_option linter.unusedSimpArgs false
namespace Go.Proofs.YthkklceofokkmaaGreatDoor
open Go Go.Av
attribute [local irreducible] E5 B7 E6 E7 DQ E8 F0 St.le B3 B5
set_option maxRecDepth 100000
abbrev MP (nm:List UInt8) (f:A4) (R:D3):List AV:=[.str nm, .i 2, .i f.op, .i f.col, .i f.code, .i f.lo, .i f.hi, .sl 6 (f.kids.map D5),C5, .i R.mea, .sl 1 (R.trms.map wA), .i 0, .i 0, .i 0, .i 0, .i 0,C5]
abbrev QI (nm:List UInt8) (f:A4) (R:D3):List AV:=[.str nm, .i 3, .i f.op, .i f.col, .i f.code, .i f.lo, .i f.hi, .sl 6 (f.kids.map D5),C5, .i R.mea,C5, .i R.evt.op, .i R.evt.col, .i R.evt.code, .i R.evt.lo, .i R.evt.hi, .sl 6 (R.evt.kids.map D5)]
theorem NQ {s:B2} {l:List (List UInt8)} (hb:(I9 s l).2 = true):∃ c0,(I9 s l).1[0]? = some c0 ∧ (I9 s l).1.getD 0 0 = c0:=by
 unfold I9 at hb ⊢
 split at hb
 ·cases hb
 ·rename_i hcb
  rw [if_neg hcb]
  dsimp only at hb ⊢
  have hl0:=Jn (s:=s) (l:=l) (by simpa using hcb)
  have hlp:0 < l.length:=of_decide_eq_true hb
  refine ⟨_,List.getElem?_eq_getElem (by omega),?_⟩
  rw [List.getD_eq_getElem?_getD,List.getElem?_eq_getElem (by omega)];rfl
theorem Zm (ws:List (List UInt8)):List.drop (2:Int).toNat (List.take (3:Int).toNat (ws.map O1)) = ((ws.take 3).drop 2).map O1:=by
 rw [show (2:Int).toNat = 2 from rfl,show (3:Int).toNat = 3 from rfl,List.map_drop,List.map_take]
theorem fv (ws:List (List UInt8)):List.drop (4:Int).toNat (List.take (((ws.map O1).length:Nat):Int).toNat (ws.map O1)) = (ws.drop 4).map O1:=by
 rw [Int.toNat_natCast,show (4:Int).toNat = 4 from rfl,List.take_length,List.map_drop]
set_option maxHeartbeats 32000000 in
theorem QJ (s:B2) (hr:C8 s = 0) (d:F4) (nm:List UInt8) (f:A4) (ws:List (List UInt8)) (hl:ws.length ≤ 20001):B5 Tryz.prog 95 3 (Vu s d (de nm f)) [.ref 0 0, .sl 1 (ws.map O1), .ref 2 0] 3 (Vu s d (MP nm f (Ba s ws (q0 nm f)).1)) (.b (Ba s ws (q0 nm f)).2):=by
 generalize hR:Ba s ws (q0 nm f) = R
 obtain ⟨R1,R2⟩:=R
 dsimp only
 unfold Ba at hR
 dsimp only at hR
 by_cases h5:ws.length < 5
 ·rw [if_pos (.inl h5)] at hR
  cases hR
  refine G3 Tryz.func95 64 fun E h0=>?_
  repeat' ((first|refine A1 ?_|refine S1 ?_|refine Z1 ?_|refine Z2 ?_|(refine And.intro ?_ ?_<;>intro h<;>try first|(exfalso;omega)|exact absurd rfl h)|refine Z3 ?_|refine Z4 ?_|intro el hel hbB|intro el hel|intro ex|refine Z5 ?_|(refine A8 ?_ ?_;exact ⟨by kernel_rfl,by decide⟩)|refine A7 ?_ ?_|exact A6|refine A3 ?_ ?_|exact A2|(refine A0 ?_ ?_ ?_;kernel_rfl;kernel_rfl)) <;> (try (conv=>whnf)))
  all_goals first
   | (exfalso;omega)
   | exact D4 (B8 (X5 2 (MP nm f ⟨nm,2,f,[],0,[],zX⟩) rfl ⟨.refl _, .refl _, .refl _, .refl _, .refl _, .refl _, .refl _, .refl _, .refl _, .refl _, .nil 1, .refl _, .refl _, .refl _, .refl _, .refl _, .refl _,trivial⟩) (A5 h0 rfl ⟨rfl,trivial⟩ ⟨rfl,⟨_,rfl⟩,rfl,trivial⟩ rfl rfl rfl))
 have g1:=K4 (ws:=ws) (i:=1) (by omega)
 have g3:=K4 (ws:=ws) (i:=3) (by omega)
 generalize E2 ws 1 = w1 at *
 generalize E2 ws 3 = w3 at *
 by_cases h1:¬ w1 = T5
 ·rw [if_pos (.inr (.inl h1))] at hR
  cases hR
  refine G3 Tryz.func95 64 fun E h0=>?_
  repeat' ((first | (refine B1 (x:=w1) g1 (by omega) ?_) |refine A1 ?_|refine S1 ?_|refine Z1 ?_|refine Z2 ?_|(refine And.intro ?_ ?_<;>intro h<;>try first|(exfalso;omega)|exact absurd rfl h)|refine Z3 ?_|refine Z4 ?_|intro el hel hbB|intro el hel|intro ex|refine Z5 ?_|(refine A8 ?_ ?_;exact ⟨by kernel_rfl,by decide⟩)|refine A7 ?_ ?_|exact A6|refine A3 ?_ ?_|exact A2|(refine A0 ?_ ?_ ?_;kernel_rfl;kernel_rfl)) <;> (try (conv=>whnf)))
  all_goals first
   | (exfalso;omega)
   | contradiction
   | exact D4 (B8 (X5 2 (MP nm f ⟨nm,2,f,[],0,[],zX⟩) rfl ⟨.refl _, .refl _, .refl _, .refl _, .refl _, .refl _, .refl _, .refl _, .refl _, .refl _, .nil 1, .refl _, .refl _, .refl _, .refl _, .refl _, .refl _,trivial⟩) (A5 h0 rfl ⟨rfl,trivial⟩ ⟨rfl,⟨_,rfl⟩,rfl,trivial⟩ rfl rfl rfl))
 obtain rfl:w1 = T5:=Decidable.of_not_not h1
 by_cases h3:¬ w3 = Es
 ·rw [if_pos (.inr (.inr h3))] at hR
  cases hR
  refine G3 Tryz.func95 64 fun E h0=>?_
  repeat' ((first | (refine B1 (x:=T5) g1 (by omega) ?_) | (refine B1 (x:=w3) g3 (by omega) ?_) |refine A1 ?_|refine S1 ?_|refine Z1 ?_|refine Z2 ?_|(refine And.intro ?_ ?_<;>intro h<;>try first|(exfalso;omega)|exact absurd rfl h)|refine Z3 ?_|refine Z4 ?_|intro el hel hbB|intro el hel|intro ex|refine Z5 ?_|(refine A8 ?_ ?_;exact ⟨by kernel_rfl,by decide⟩)|refine A7 ?_ ?_|exact A6|refine A3 ?_ ?_|exact A2|(refine A0 ?_ ?_ ?_;kernel_rfl;kernel_rfl)) <;> (try (conv=>whnf)))
  all_goals first
   | (exfalso;omega)
   | contradiction
   | exact D4 (B8 (X5 2 (MP nm f ⟨nm,2,f,[],0,[],zX⟩) rfl ⟨.refl _, .refl _, .refl _, .refl _, .refl _, .refl _, .refl _, .refl _, .refl _, .refl _, .nil 1, .refl _, .refl _, .refl _, .refl _, .refl _, .refl _,trivial⟩) (A5 h0 rfl ⟨rfl,trivial⟩ ⟨rfl,⟨_,rfl⟩,rfl,trivial⟩ rfl rfl rfl))
 obtain rfl:w3 = Es:=Decidable.of_not_not h3
 rw [if_neg (by rintro (h | h | h);(exact h5 h);(exact h1 h);exact h3 h)] at hR
 have hm:=BK s hr d ((ws.take 3).drop 2) (by rw [List.length_drop,List.length_take];omega)
 have ht:=BK s hr d (ws.drop 4) (by rw [List.length_drop];omega)
 rw [← Zm] at hm
 rw [← fv] at ht
 have hg:=NQ (s:=s) (l:=(ws.take 3).drop 2)
 generalize I9 s ((ws.take 3).drop 2) = M at *
 generalize I9 s (ws.drop 4) = T at *
 obtain ⟨M1,M2⟩:=M
 obtain ⟨T1,T2⟩:=T
 dsimp only at hm ht hg hR
 clear h1 h3
 cases M2 with
 | false =>
   rw [if_pos (.inl rfl)] at hR
   cases hR
   refine G3 Tryz.func95 64 fun E h0=>?_
   repeat' ((first | (refine B1 (x:=T5) g1 (by omega) ?_) | (refine B1 (x:=Es) g3 (by omega) ?_) |refine A1 ?_|refine S1 ?_|refine Z1 ?_|refine Z2 ?_|(refine And.intro ?_ ?_<;>intro h<;>try first|(exfalso;omega)|exact absurd rfl h)|refine Z3 ?_|refine Z4 ?_|intro el hel hbB|intro el hel|intro ex|refine Z5 ?_|(refine A8 ?_ ?_;exact ⟨by kernel_rfl,by decide⟩)|refine A7 ?_ ?_|exact A6|refine A3 ?_ ?_|exact A2|(refine A0 ?_ ?_ ?_;kernel_rfl;kernel_rfl) | refine nc [0,1] [0,0] hm rfl rfl rfl ⟨rfl,rfl,trivial⟩ ?_ | refine nc [0,1] [0,1] ht rfl rfl rfl ⟨rfl,rfl,trivial⟩ ?_) <;> (try (conv=>whnf)))
   all_goals first
    | (exfalso;omega)
    | contradiction
    | exact D4 (B8 (X5 2 (MP nm f ⟨nm,2,f,[],0,[],zX⟩) rfl ⟨.refl _, .refl _, .refl _, .refl _, .refl _, .refl _, .refl _, .refl _, .refl _, .refl _, .nil 1, .refl _, .refl _, .refl _, .refl _, .refl _, .refl _,trivial⟩) (A5 h0 rfl ⟨rfl,trivial⟩ ⟨rfl,⟨_,rfl⟩,rfl,trivial⟩ rfl rfl rfl))
 | true =>
   obtain ⟨c0,gc,gd⟩:=hg rfl
   rw [gd] at hR
   by_cases hbad:T2 = false ∨ 3 < T1.length
   ·rw [if_pos (.inr hbad)] at hR
    cases hR
    refine G3 Tryz.func95 64 fun E h0=>?_
    repeat' ((first | (refine B1 (x:=T5) g1 (by omega) ?_) | (refine B1 (x:=Es) g3 (by omega) ?_) | (refine B1 (x:=c0) gc (by omega) ?_) |refine A1 ?_|refine S1 ?_|refine Z1 ?_|refine Z2 ?_|(refine And.intro ?_ ?_<;>intro h<;>try first|(exfalso;omega)|exact absurd rfl h)|refine Z3 ?_|refine Z4 ?_|intro el hel hbB|intro el hel|intro ex|refine Z5 ?_|(refine A8 ?_ ?_;exact ⟨by kernel_rfl,by decide⟩)|refine A7 ?_ ?_|exact A6|refine A3 ?_ ?_|exact A2|(refine A0 ?_ ?_ ?_;kernel_rfl;kernel_rfl) | refine nc [0,1] [0,0] hm rfl rfl rfl ⟨rfl,rfl,trivial⟩ ?_ | refine nc [0,1] [0,1] ht rfl rfl rfl ⟨rfl,rfl,trivial⟩ ?_) <;> (try (conv=>whnf)))
    all_goals first
     | (exfalso;omega)
     | contradiction
     | (exfalso;rcases hbad with h' | h';exact Bool.false_ne_true (h'.symm.trans (show T2 = true by assumption));omega)
     | exact D4 (B8 (X5 2 (MP nm f ⟨nm,2,f,[],0,[],zX⟩) rfl ⟨.refl _, .refl _, .refl _, .refl _, .refl _, .refl _, .refl _, .refl _, .refl _, .refl _, .nil 1, .refl _, .refl _, .refl _, .refl _, .refl _, .refl _,trivial⟩) (A5 h0 rfl ⟨rfl,trivial⟩ ⟨rfl,⟨_,rfl⟩,rfl,trivial⟩ rfl rfl rfl))
   ·rw [if_neg (by rintro (h | h);(cases h);exact hbad h)] at hR
    cases hR
    have hT2:T2 = true:=by cases T2;(exact absurd (.inl rfl) hbad);rfl
    have hT3:T1.length ≤ 3:=by omega
    subst hT2
    refine G3 Tryz.func95 64 fun E h0=>?_
    repeat' ((first | (refine B1 (x:=T5) g1 (by omega) ?_) | (refine B1 (x:=Es) g3 (by omega) ?_) | (refine B1 (x:=c0) gc (by omega) ?_) |refine A1 ?_|refine S1 ?_|refine Z1 ?_|refine Z2 ?_|(refine And.intro ?_ ?_<;>intro h<;>try first|(exfalso;omega)|exact absurd rfl h)|refine Z3 ?_|refine Z4 ?_|intro el hel hbB|intro el hel|intro ex|refine Z5 ?_|(refine A8 ?_ ?_;exact ⟨by kernel_rfl,by decide⟩)|refine A7 ?_ ?_|exact A6|refine A3 ?_ ?_|exact A2|(refine A0 ?_ ?_ ?_;kernel_rfl;kernel_rfl) | refine nc [0,1] [0,0] hm rfl rfl rfl ⟨rfl,rfl,trivial⟩ ?_ | refine nc [0,1] [0,1] ht rfl rfl rfl ⟨rfl,rfl,trivial⟩ ?_) <;> (try (conv=>whnf)))
    all_goals first
     | (exfalso;omega)
     | contradiction
     | exact D4 (A5 h0 rfl ⟨rfl,trivial⟩ ⟨rfl,⟨_,rfl⟩,rfl,trivial⟩ rfl rfl rfl)
set_option maxHeartbeats 32000000 in
theorem QK (s:B2) (hr:C8 s = 0) (d:F4) (nm:List UInt8) (f:A4) (t:List UInt8) (hl:t.length ≤ 20000):B5 Tryz.prog 96 3 (Vu s d (de nm f)) [.ref 0 0, .str t, .ref 2 0] 3 (Vu s d (QI nm f (Bb s t (q0 nm f)).1)) (.b (Bb s t (q0 nm f)).2):=by
 generalize hR:Bb s t (q0 nm f) = R
 obtain ⟨R1,R2⟩:=R
 dsimp only
 unfold Bb at hR
 dsimp only at hR
 have hsp:=RL t [32] 5 (by omega) (by simp) (by omega) (by omega)
 have hwl:∀ w ∈ K8 [32] 4 t,w.length ≤ 20000:=fun w hw=>Nat.le_trans (NO 4 t w hw) hl
 rw [show 5 - 1 = 4 from rfl] at hsp
 generalize K8 [32] 4 t = ws at *
 by_cases h5:¬ ws.length = 5
 ·rw [if_pos (.inl h5)] at hR
  cases hR
  refine G3 Tryz.func96 57 fun E h0=>?_
  repeat' ((first | refine B0 hsp ?_ |refine A1 ?_|refine S1 ?_|refine Z1 ?_|refine Z2 ?_|(refine And.intro ?_ ?_<;>intro h<;>try first|(exfalso;omega)|exact absurd rfl h)|refine Z3 ?_|refine Z4 ?_|intro el hel hbB|intro el hel|intro ex|refine Z5 ?_|(refine A8 ?_ ?_;exact ⟨by kernel_rfl,by decide⟩)|refine A7 ?_ ?_|exact A6|refine A3 ?_ ?_|exact A2|(refine A0 ?_ ?_ ?_;kernel_rfl;kernel_rfl)) <;> (try (conv=>whnf)))
  all_goals first
   | (exfalso;omega)
   | exact D4 (B8 (X5 2 (QI nm f ⟨nm,3,f,[],0,[],zX⟩) rfl ⟨.refl _, .refl _, .refl _, .refl _, .refl _, .refl _, .refl _, .refl _, .refl _, .refl _, .refl _, .refl _, .refl _, .refl _, .refl _, .refl _, .nil 6,trivial⟩) (A5 h0 rfl ⟨rfl,trivial⟩ ⟨rfl,⟨_,rfl⟩,rfl,trivial⟩ rfl rfl rfl))
 have h5':ws.length = 5:=Decidable.of_not_not h5
 have g1:=K4 (ws:=ws) (i:=1) (by omega)
 have g3:=K4 (ws:=ws) (i:=3) (by omega)
 have g4:=K4 (ws:=ws) (i:=4) (by omega)
 have l4:=hwl _ (List.mem_of_getElem? g4)
 generalize E2 ws 1 = w1 at *
 generalize E2 ws 3 = w3 at *
 generalize E2 ws 4 = w4 at *
 by_cases h1:¬ w1 = T5
 ·rw [if_pos (.inr (.inl h1))] at hR
  cases hR
  refine G3 Tryz.func96 57 fun E h0=>?_
  repeat' ((first | refine B0 hsp ?_ | (refine B1 (x:=w1) g1 (by omega) ?_) |refine A1 ?_|refine S1 ?_|refine Z1 ?_|refine Z2 ?_|(refine And.intro ?_ ?_<;>intro h<;>try first|(exfalso;omega)|exact absurd rfl h)|refine Z3 ?_|refine Z4 ?_|intro el hel hbB|intro el hel|intro ex|refine Z5 ?_|(refine A8 ?_ ?_;exact ⟨by kernel_rfl,by decide⟩)|refine A7 ?_ ?_|exact A6|refine A3 ?_ ?_|exact A2|(refine A0 ?_ ?_ ?_;kernel_rfl;kernel_rfl)) <;> (try (conv=>whnf)))
  all_goals first
   | (exfalso;omega)
   | contradiction
   | exact D4 (B8 (X5 2 (QI nm f ⟨nm,3,f,[],0,[],zX⟩) rfl ⟨.refl _, .refl _, .refl _, .refl _, .refl _, .refl _, .refl _, .refl _, .refl _, .refl _, .refl _, .refl _, .refl _, .refl _, .refl _, .refl _, .nil 6,trivial⟩) (A5 h0 rfl ⟨rfl,trivial⟩ ⟨rfl,⟨_,rfl⟩,rfl,trivial⟩ rfl rfl rfl))
 obtain rfl:w1 = T5:=Decidable.of_not_not h1
 by_cases h3:¬ w3 = BW
 ·rw [if_pos (.inr (.inr h3))] at hR
  cases hR
  refine G3 Tryz.func96 57 fun E h0=>?_
  repeat' ((first | refine B0 hsp ?_ | (refine B1 (x:=T5) g1 (by omega) ?_) | (refine B1 (x:=w3) g3 (by omega) ?_) |refine A1 ?_|refine S1 ?_|refine Z1 ?_|refine Z2 ?_|(refine And.intro ?_ ?_<;>intro h<;>try first|(exfalso;omega)|exact absurd rfl h)|refine Z3 ?_|refine Z4 ?_|intro el hel hbB|intro el hel|intro ex|refine Z5 ?_|(refine A8 ?_ ?_;exact ⟨by kernel_rfl,by decide⟩)|refine A7 ?_ ?_|exact A6|refine A3 ?_ ?_|exact A2|(refine A0 ?_ ?_ ?_;kernel_rfl;kernel_rfl)) <;> (try (conv=>whnf)))
  all_goals first
   | (exfalso;omega)
   | contradiction
   | exact D4 (B8 (X5 2 (QI nm f ⟨nm,3,f,[],0,[],zX⟩) rfl ⟨.refl _, .refl _, .refl _, .refl _, .refl _, .refl _, .refl _, .refl _, .refl _, .refl _, .refl _, .refl _, .refl _, .refl _, .refl _, .refl _, .nil 6,trivial⟩) (A5 h0 rfl ⟨rfl,trivial⟩ ⟨rfl,⟨_,rfl⟩,rfl,trivial⟩ rfl rfl rfl))
 obtain rfl:w3 = BW:=Decidable.of_not_not h3
 rw [if_neg (by rintro (h | h | h);(exact h5 h);(exact h1 h);exact h3 h)] at hR
 have hm:=BK s hr d ((ws.take 3).drop 2) (by rw [List.length_drop,List.length_take];omega)
 rw [← Zm] at hm
 have hg:=NQ (s:=s) (l:=(ws.take 3).drop 2)
 have hc:=l9 s d w4 (by omega)
 generalize I9 s ((ws.take 3).drop 2) = M at *
 generalize V0 s w4 = C at *
 obtain ⟨M1,M2⟩:=M
 obtain ⟨C1,C2⟩:=C
 dsimp only at hm hc hg hR
 clear h1 h3
 cases M2 with
 | false =>
   rw [if_pos rfl] at hR
   cases hR
   refine G3 Tryz.func96 57 fun E h0=>?_
   repeat' ((first | refine B0 hsp ?_ | (refine B1 (x:=T5) g1 (by omega) ?_) | (refine B1 (x:=BW) g3 (by omega) ?_) |refine A1 ?_|refine S1 ?_|refine Z1 ?_|refine Z2 ?_|(refine And.intro ?_ ?_<;>intro h<;>try first|(exfalso;omega)|exact absurd rfl h)|refine Z3 ?_|refine Z4 ?_|intro el hel hbB|intro el hel|intro ex|refine Z5 ?_|(refine A8 ?_ ?_;exact ⟨by kernel_rfl,by decide⟩)|refine A7 ?_ ?_|exact A6|refine A3 ?_ ?_|exact A2|(refine A0 ?_ ?_ ?_;kernel_rfl;kernel_rfl) | refine nc [0,1] [0,0] hm rfl rfl rfl ⟨rfl,rfl,trivial⟩ ?_) <;> (try (conv=>whnf)))
   all_goals first
    | (exfalso;omega)
    | contradiction
    | exact D4 (B8 (X5 2 (QI nm f ⟨nm,3,f,[],0,[],zX⟩) rfl ⟨.refl _, .refl _, .refl _, .refl _, .refl _, .refl _, .refl _, .refl _, .refl _, .refl _, .refl _, .refl _, .refl _, .refl _, .refl _, .refl _, .nil 6,trivial⟩) (A5 h0 rfl ⟨rfl,trivial⟩ ⟨rfl,⟨_,rfl⟩,rfl,trivial⟩ rfl rfl rfl))
 | true =>
   obtain ⟨c0,gc,gd⟩:=hg rfl
   rw [if_neg (by simp),gd] at hR
   cases hR
   refine G3 Tryz.func96 57 fun E h0=>?_
   repeat' ((first | refine B0 hsp ?_ | (refine B1 (x:=T5) g1 (by omega) ?_) | (refine B1 (x:=BW) g3 (by omega) ?_) | (refine B1 (x:=w4) g4 (by omega) ?_) | (refine B1 (x:=c0) gc (by omega) ?_) |refine A1 ?_|refine S1 ?_|refine Z1 ?_|refine Z2 ?_|(refine And.intro ?_ ?_<;>intro h<;>try first|(exfalso;omega)|exact absurd rfl h)|refine Z3 ?_|refine Z4 ?_|intro el hel hbB|intro el hel|intro ex|refine Z5 ?_|(refine A8 ?_ ?_;exact ⟨by kernel_rfl,by decide⟩)|refine A7 ?_ ?_|exact A6|refine A3 ?_ ?_|exact A2|(refine A0 ?_ ?_ ?_;kernel_rfl;kernel_rfl) | refine nc [0,1] [0,0] hm rfl rfl rfl ⟨rfl,rfl,trivial⟩ ?_ | refine nc [0,1] [0,1] hc rfl rfl rfl ⟨rfl,rfl,trivial⟩ ?_) <;> (try (conv=>whnf)))
   all_goals first
    | (exfalso;omega)
    | contradiction
    | exact D4 (A5 h0 rfl ⟨rfl,trivial⟩ ⟨rfl,⟨_,rfl⟩,rfl,trivial⟩ rfl rfl rfl)
end Go.Proofs.YthkklceofokkmaaGreatDoor

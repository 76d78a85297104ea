/- Chapter 8: the program's reader: the line of a question. -/
import Derived.Test.YthkklceofokkmaaGreatDoorBQr4
set_option linter.unusedVariables false
set_option linter.unnecessarySimpa false
set_option linter.unusedSimpArgs false
namespace Go.Proofs.YthkklceofokkmaaGreatDoor
open Go Go.Av
attribute [local irreducible] E5 B7 E6 E7 DQ E8 F0 St.le B3 B5
set_option maxRecDepth 100000
theorem Z9 {t w:List UInt8} (h:0 ≤ Lib.lastIndex t w):(Lib.lastIndex t w).toNat + w.length ≤ t.length:=by
 unfold Lib.lastIndex at h ⊢
 split at h
 ·rename_i hl
  rw [if_pos hl]
  rcases Lib.lastOcc_spec t w (t.length - w.length + 1) with ⟨h1,_⟩ | ⟨i,h1,h2,_⟩
  ·omega
  ·omega
 ·omega
theorem Ii (w:List UInt8):Lib.cut w [32] = (w.takeWhile (B6 32),H3 w,decide (w.dropWhile (B6 32) ≠ [])):=Ig 32 w
theorem Cr (t:List UInt8):(H3 t).length ≤ t.length:=by
 have:=T8 (B6 32) t
 unfold H3
 rw [List.length_drop];omega
theorem Vv (s:B2) (ws:List (List UInt8)) (nm:List UInt8) (f:A4):∃ D M,(BZ s ws (q0 nm f)).1 = ⟨nm,1,f,D,M,[],zX⟩:=by
 unfold BZ Gm
 repeat' split
 all_goals exact ⟨_,_,rfl⟩
theorem Vw (s:B2) (ws:List (List UInt8)) (nm:List UInt8) (f:A4):∃ T M,(Ba s ws (q0 nm f)).1 = ⟨nm,2,f,[],M,T,zX⟩:=by
 unfold Ba
 repeat' split
 all_goals exact ⟨_,_,rfl⟩
theorem Vx (s:B2) (t nm:List UInt8) (f:A4):∃ V M,(Bb s t (q0 nm f)).1 = ⟨nm,3,f,[],M,[],V⟩:=by
 unfold Bb
 repeat' split
 all_goals exact ⟨_,_,rfl⟩
theorem LP (s:B2) (t:List UInt8):DN s t = q0 (E2 (E1 [32] (E4 t)) 0) (V1 s t).1:=rfl
set_option maxHeartbeats 32000000 in
theorem Tw (s:B2) (d:F4) (t:List UInt8) (hl:t.length ≤ 20000) (he:t.dropWhile (B6 32) = [] ∨ H8 t < 0):B5 Tryz.prog 50 2 (d8 s d) [.ref 0 0, .str t] 2 (d8 s d) (.b false):=by
 have hrl:=Cr t
 have c1:=v7 t [32] (by omega)
 rw [Ii] at c1
 have c2:=Z8 (H3 t) J1 (by omega)
 have hroom:=Z9 (t:=H3 t) (w:=J1)
 rw [show J1.length = 7 from rfl] at hroom
 have hw8:Lib.lastIndex (H3 t) J1 = H8 t:=rfl
 rw [hw8] at c2 hroom
 generalize H3 t = r at *
 generalize H8 t = a at *
 generalize t.takeWhile (B6 32) = k at *
 have he2:t.dropWhile (B6 32) ≠ [] → a < 0:=fun h=>he.resolve_left h
 clear he
 generalize hb:decide (t.dropWhile (B6 32) ≠ []) = b at *
 have he3:b = true → a < 0:=fun h=>he2 (of_decide_eq_true (by rw [hb];exact h))
 clear hb he2
 refine G3 Tryz.func50 82 fun E h0=>?_
 repeat' ((first | refine B0 c1 ?_ | refine B0 c2 ?_ |refine A1 ?_|refine S1 ?_|refine Z1 ?_|refine Z2 ?_|(refine And.intro ?_ ?_<;>intro h<;>try first|(exfalso;omega)|exact absurd rfl h)|refine Z3 ?_|refine Z4 ?_|intro el hel hbB|intro el hel|intro ex|refine Z5 ?_|(refine A8 ?_ ?_;exact ⟨by kernel_rfl,by decide⟩)|refine A7 ?_ ?_|exact A6|refine A3 ?_ ?_|exact A2|(refine A0 ?_ ?_ ?_;kernel_rfl;kernel_rfl)) <;> (try (conv=>whnf)))
 all_goals first
  | (exfalso;omega)
  | exact D4 (A5 h0 rfl ⟨rfl,trivial⟩ ⟨rfl,⟨_,rfl⟩,trivial⟩ rfl rfl rfl)
  | (exfalso;have:=he3 (by assumption);omega)
set_option maxHeartbeats 32000000 in
theorem YQ (s:B2) (d:F4) (t:List UInt8) (hl:t.length ≤ 20000) (hdw:t.dropWhile (B6 32) ≠ []) (hw0:0 ≤ H8 t) (hbad:¬ (V1 s t).2 = 0 ∨ Q6 (E2 (E1 [32] (E4 t)) 0) = false):B5 Tryz.prog 50 2 (d8 s d) [.ref 0 0, .str t] 2 (d8 s d) (.b false):=by
 have hrl:=Cr t
 have c1:=v7 t [32] (by omega)
 rw [Ii] at c1
 have c2:=Z8 (H3 t) J1 (by omega)
 have hroom:=Z9 (t:=H3 t) (w:=J1)
 rw [show J1.length = 7 from rfl] at hroom
 have c3:B3 Tryz.prog 91 [.str (List.drop ((0:Nat):Int).toNat (List.take (H8 t).toNat (H3 t))), .str [32]] (.sl 1 ((E1 [32] (E4 t)).map O1)):=Y7 (E4 t) [32] (by unfold E4;rw [List.length_take];omega) (by simp)
 have hah:(E4 t).length ≤ 20000:=by unfold E4;rw [List.length_take];omega
 have hpos:=Ah 32 (E4 t)
 have hwl:∀ w ∈ E1 [32] (E4 t),w.length ≤ 20000:=fun w hw=>Nat.le_trans (Cq hw) hah
 have hwn:(E1 [32] (E4 t)).length ≤ 20001:=Nat.le_trans (BV [32] _ _) (by omega)
 have hw8:Lib.lastIndex (H3 t) J1 = H8 t:=rfl
 rw [hw8] at c2 hroom
 have h7:=hroom hw0
 have hraw:List.drop (H8 t + 7).toNat (List.take ((H3 t).length:Int).toNat (H3 t)) = (H3 t).drop ((H8 t).toNat + 7):=by
  rw [Int.toNat_natCast,List.take_length,show (H8 t + 7).toNat = (H8 t).toNat + 7 by omega]
 have c4:=l9 s d ((H3 t).drop ((H8 t).toNat + 7)) (by rw [List.length_drop];omega)
 have hfe:V0 s ((H3 t).drop ((H8 t).toNat + 7)) = V1 s t:=rfl
 rw [hfe] at c4
 rw [← hraw] at c4
 have g0:=K4 (ws:=E1 [32] (E4 t)) (i:=0) hpos
 have c5:=v8 (E2 (E1 [32] (E4 t)) 0)
 rw [decide_eq_true hdw] at c1
 generalize E2 (E1 [32] (E4 t)) 0 = nm at *
 generalize V1 s t = C at *
 obtain ⟨f,fe⟩:=C
 dsimp only at *
 generalize Q6 nm = b5 at *
 generalize E1 [32] (E4 t) = ws at *
 clear hfe hraw hwl hwn hah
 generalize H3 t = r at *
 generalize H8 t = a at *
 generalize t.takeWhile (B6 32) = k at *
 refine G3 Tryz.func50 82 fun E h0=>?_
 repeat' ((first | refine B0 c1 ?_ | refine B0 c2 ?_ | refine B0 c3 ?_ | refine B0 c5 ?_ | (refine B1 (x:=nm) g0 (by omega) ?_) |refine A1 ?_|refine S1 ?_|refine Z1 ?_|refine Z2 ?_|(refine And.intro ?_ ?_<;>intro h<;>try first|(exfalso;omega)|exact absurd rfl h)|refine Z3 ?_|refine Z4 ?_|intro el hel hbB|intro el hel|intro ex|refine Z5 ?_|(refine A8 ?_ ?_;exact ⟨by kernel_rfl,by decide⟩)|refine A7 ?_ ?_|exact A6|refine A3 ?_ ?_|exact A2|(refine A0 ?_ ?_ ?_;kernel_rfl;kernel_rfl) | refine nc [0,1] [0,0] c4 rfl rfl rfl ⟨rfl,rfl,trivial⟩ ?_) <;> (try (conv=>whnf)))
 all_goals first
  | (exfalso;omega)
  | exact D4 (A5 h0 rfl ⟨rfl,trivial⟩ ⟨rfl,⟨_,rfl⟩,trivial⟩ rfl rfl rfl)
  | (exfalso;rcases hbad with h' | h';exact h' (by assumption);exact Bool.false_ne_true (h'.symm.trans (show b5 = true by assumption)))
set_option maxHeartbeats 32000000 in
theorem YR (s:B2) (hr:C8 s = 0) (d:F4) (t:List UInt8) (hl:t.length ≤ 20000) (hql:d.qs.length ≤ 20000) (hdw:t.dropWhile (B6 32) ≠ []) (hw0:0 ≤ H8 t) (hf0:(V1 s t).2 = 0) (hnm:Q6 (E2 (E1 [32] (E4 t)) 0) = true) (hkd:t.takeWhile (B6 32) = Hu):B5 Tryz.prog 50 2 (d8 s d) [.ref 0 0, .str t] 2 (d8 s ⟨d.prj,d.src,d.coh,d.part,d.of,d.seed,d.qs ++ [(BZ s (E1 [32] (E4 t)) (DN s t)).1]⟩) (.b (BZ s (E1 [32] (E4 t)) (DN s t)).2):=by
 have hrl:=Cr t
 have c1:=v7 t [32] (by omega)
 rw [Ii] at c1
 have c2:=Z8 (H3 t) J1 (by omega)
 have hroom:=Z9 (t:=H3 t) (w:=J1)
 rw [show J1.length = 7 from rfl] at hroom
 have c3:B3 Tryz.prog 91 [.str (List.drop ((0:Nat):Int).toNat (List.take (H8 t).toNat (H3 t))), .str [32]] (.sl 1 ((E1 [32] (E4 t)).map O1)):=Y7 (E4 t) [32] (by unfold E4;rw [List.length_take];omega) (by simp)
 have hah:(E4 t).length ≤ 20000:=by unfold E4;rw [List.length_take];omega
 have hpos:=Ah 32 (E4 t)
 have hwl:∀ w ∈ E1 [32] (E4 t),w.length ≤ 20000:=fun w hw=>Nat.le_trans (Cq hw) hah
 have hwn:(E1 [32] (E4 t)).length ≤ 20001:=Nat.le_trans (BV [32] _ _) (by omega)
 have hw8:Lib.lastIndex (H3 t) J1 = H8 t:=rfl
 rw [hw8] at c2 hroom
 have h7:=hroom hw0
 have hraw:List.drop (H8 t + 7).toNat (List.take ((H3 t).length:Int).toNat (H3 t)) = (H3 t).drop ((H8 t).toNat + 7):=by
  rw [Int.toNat_natCast,List.take_length,show (H8 t + 7).toNat = (H8 t).toNat + 7 by omega]
 have c4:=l9 s d ((H3 t).drop ((H8 t).toNat + 7)) (by rw [List.length_drop];omega)
 have hfe:V0 s ((H3 t).drop ((H8 t).toNat + 7)) = V1 s t:=rfl
 rw [hfe] at c4
 rw [← hraw] at c4
 have g0:=K4 (ws:=E1 [32] (E4 t)) (i:=0) hpos
 have c5:=v8 (E2 (E1 [32] (E4 t)) 0)
 rw [decide_eq_true hdw] at c1
 rw [hnm] at c5
 simp only [LP]
 clear hnm
 generalize E2 (E1 [32] (E4 t)) 0 = nm at *
 generalize V1 s t = C at *
 obtain ⟨f,fe⟩:=C
 dsimp only at *
 subst hf0
 generalize E1 [32] (E4 t) = ws at *
 have c6:=QH s hr d nm f ws hwl hwn
 obtain ⟨D,M,hD⟩:=Vv s ws nm f
 generalize BZ s ws (q0 nm f) = R at *
 obtain ⟨R1,ok⟩:=R
 dsimp only at c6 hD ⊢
 subst hD
 clear hfe hraw hwl hwn hah hroom
 generalize H3 t = r at *
 generalize H8 t = a at *
 generalize hk:t.takeWhile (B6 32) = k at *
 obtain rfl:k = Hu:=hkd
 refine G3 Tryz.func50 82 fun E h0=>?_
 repeat' ((first | (refine E3 19 ?_;refine H6 (id:=19) (σ':=⟨[(0, .ref 0 0),(7, .b ok),(11, .iptr (C4 (⟨nm,1,f,D,M,[],zX⟩:D3)))],4,[(0,some (.box (CM s d))),(1,some (.row E9 17 0 (d.qs.map C4)))]⟩) (B8 (A5 (σ':=⟨[(0, .ref 0 0),(7, .b ok),(11, .ref 2 0)],4,[(0,some (.box (CM s d))),(1,some (.row E9 17 0 (d.qs.map C4))),(2,some (.box [.str nm, .i 1, .i f.op, .i f.col, .i f.code, .i f.lo, .i f.hi, .sl 6 (f.kids.map D5), .sl 2 (D.map P8), .i M,C5, .i 0, .i 0, .i 0, .i 0, .i 0,C5]))]⟩) h0 rfl ⟨rfl,rfl,rfl,trivial⟩ ⟨rfl,⟨_,rfl⟩,rfl,trivial⟩ rfl rfl rfl) (B8 (X5 2 (C4 (⟨nm,1,f,D,M,[],zX⟩:D3)) rfl ⟨.refl _, .refl _, .refl _, .refl _, .refl _, .refl _, .refl _, .refl _, .refl _, .refl _, .nil 1, .refl _, .refl _, .refl _, .refl _, .refl _, .nil 6,trivial⟩) (A5 h0 rfl ⟨rfl,rfl,rfl,trivial⟩ ⟨rfl,⟨_,rfl⟩,trivial⟩ rfl rfl rfl))) ?_;refine F3 (id:=19) ⟨[(7, .b ok)],4,[(0,some (.box [.sl 2 (s.lists.map O7), .sl 7 (s.cols.map L5), .str d.prj, .str d.src, .i d.coh.op, .i d.coh.col, .i d.coh.code, .i d.coh.lo, .i d.coh.hi, .sl 6 (d.coh.kids.map D5), .i d.part, .i d.of, .i d.seed, .row 1 0 (d.qs ++ [(⟨nm,1,f,D,M,[],zX⟩:D3)]).length])),(1,some (.row E9 17 0 ((d.qs ++ [(⟨nm,1,f,D,M,[],zX⟩:D3)]).map C4)))]⟩ ?_ ?_) | refine B0 c1 ?_ | refine B0 c2 ?_ | refine B0 c3 ?_ | refine B0 c5 ?_ | (refine B1 (x:=nm) g0 (by omega) ?_) |refine A1 ?_|refine S1 ?_|refine Z1 ?_|refine Z2 ?_|(refine And.intro ?_ ?_<;>intro h<;>try first|(exfalso;omega)|exact absurd rfl h)|refine Z3 ?_|refine Z4 ?_|intro el hel hbB|intro el hel|intro ex|refine Z5 ?_|(refine A8 ?_ ?_;exact ⟨by kernel_rfl,by decide⟩)|refine A7 ?_ ?_|exact A6|refine A3 ?_ ?_|exact A2|(refine A0 ?_ ?_ ?_;kernel_rfl;kernel_rfl) | refine nc [0,1] [0,0] c4 rfl rfl rfl ⟨rfl,rfl,trivial⟩ ?_ | refine nc [0,1,2] [0,1,0] c6 rfl rfl rfl ⟨rfl,rfl,rfl,trivial⟩ ?_) <;> (try (conv=>whnf)))
 all_goals first
  | (exfalso;omega)
  | exact A5 h0 rfl ⟨rfl,trivial⟩ ⟨congrArg (fun z=>H4.box [.sl 2 (s.lists.map O7), .sl 7 (s.cols.map L5), .str d.prj, .str d.src, .i d.coh.op, .i d.coh.col, .i d.coh.code, .i d.coh.lo, .i d.coh.hi, .sl 6 (d.coh.kids.map D5), .i d.part, .i d.of, .i d.seed, .row 1 0 z]) (by rw [List.length_append];rfl),⟨_,congrArg (H4.row E9 17 _) (by rw [List.map_append];rfl)⟩,trivial⟩ rfl rfl rfl
  | exact D4 (A5 h0 rfl ⟨rfl,trivial⟩ ⟨rfl,⟨_,rfl⟩,trivial⟩ rfl rfl rfl)
  | contradiction
  | (exfalso;simp_all;done)
set_option maxHeartbeats 32000000 in
theorem YS (s:B2) (hr:C8 s = 0) (d:F4) (t:List UInt8) (hl:t.length ≤ 20000) (hql:d.qs.length ≤ 20000) (hdw:t.dropWhile (B6 32) ≠ []) (hw0:0 ≤ H8 t) (hf0:(V1 s t).2 = 0) (hnm:Q6 (E2 (E1 [32] (E4 t)) 0) = true) (hkd:t.takeWhile (B6 32) = Hv):B5 Tryz.prog 50 2 (d8 s d) [.ref 0 0, .str t] 2 (d8 s ⟨d.prj,d.src,d.coh,d.part,d.of,d.seed,d.qs ++ [(Ba s (E1 [32] (E4 t)) (DN s t)).1]⟩) (.b (Ba s (E1 [32] (E4 t)) (DN s t)).2):=by
 have hrl:=Cr t
 have c1:=v7 t [32] (by omega)
 rw [Ii] at c1
 have c2:=Z8 (H3 t) J1 (by omega)
 have hroom:=Z9 (t:=H3 t) (w:=J1)
 rw [show J1.length = 7 from rfl] at hroom
 have c3:B3 Tryz.prog 91 [.str (List.drop ((0:Nat):Int).toNat (List.take (H8 t).toNat (H3 t))), .str [32]] (.sl 1 ((E1 [32] (E4 t)).map O1)):=Y7 (E4 t) [32] (by unfold E4;rw [List.length_take];omega) (by simp)
 have hah:(E4 t).length ≤ 20000:=by unfold E4;rw [List.length_take];omega
 have hpos:=Ah 32 (E4 t)
 have hwl:∀ w ∈ E1 [32] (E4 t),w.length ≤ 20000:=fun w hw=>Nat.le_trans (Cq hw) hah
 have hwn:(E1 [32] (E4 t)).length ≤ 20001:=Nat.le_trans (BV [32] _ _) (by omega)
 have hw8:Lib.lastIndex (H3 t) J1 = H8 t:=rfl
 rw [hw8] at c2 hroom
 have h7:=hroom hw0
 have hraw:List.drop (H8 t + 7).toNat (List.take ((H3 t).length:Int).toNat (H3 t)) = (H3 t).drop ((H8 t).toNat + 7):=by
  rw [Int.toNat_natCast,List.take_length,show (H8 t + 7).toNat = (H8 t).toNat + 7 by omega]
 have c4:=l9 s d ((H3 t).drop ((H8 t).toNat + 7)) (by rw [List.length_drop];omega)
 have hfe:V0 s ((H3 t).drop ((H8 t).toNat + 7)) = V1 s t:=rfl
 rw [hfe] at c4
 rw [← hraw] at c4
 have g0:=K4 (ws:=E1 [32] (E4 t)) (i:=0) hpos
 have c5:=v8 (E2 (E1 [32] (E4 t)) 0)
 rw [decide_eq_true hdw] at c1
 rw [hnm] at c5
 simp only [LP]
 clear hnm
 generalize E2 (E1 [32] (E4 t)) 0 = nm at *
 generalize V1 s t = C at *
 obtain ⟨f,fe⟩:=C
 dsimp only at *
 subst hf0
 generalize E1 [32] (E4 t) = ws at *
 have c6:=QJ s hr d nm f ws hwn
 obtain ⟨T,M,hD⟩:=Vw s ws nm f
 generalize Ba s ws (q0 nm f) = R at *
 obtain ⟨R1,ok⟩:=R
 dsimp only at c6 hD ⊢
 subst hD
 clear hfe hraw hwl hwn hah hroom
 generalize H3 t = r at *
 generalize H8 t = a at *
 generalize hk:t.takeWhile (B6 32) = k at *
 obtain rfl:k = Hv:=hkd
 refine G3 Tryz.func50 82 fun E h0=>?_
 repeat' ((first | (refine E3 19 ?_;refine H6 (id:=19) (σ':=⟨[(0, .ref 0 0),(7, .b ok),(11, .iptr (C4 (⟨nm,2,f,[],M,T,zX⟩:D3)))],3,[(0,some (.box (CM s d))),(1,some (.row E9 17 0 (d.qs.map C4)))]⟩) (B8 (A5 (σ':=⟨[(0, .ref 0 0),(7, .b ok),(11, .ref 2 0)],3,[(0,some (.box (CM s d))),(1,some (.row E9 17 0 (d.qs.map C4))),(2,some (.box [.str nm, .i 2, .i f.op, .i f.col, .i f.code, .i f.lo, .i f.hi, .sl 6 (f.kids.map D5),C5, .i M, .sl 1 (T.map wA), .i 0, .i 0, .i 0, .i 0, .i 0,C5]))]⟩) h0 rfl ⟨rfl,rfl,rfl,trivial⟩ ⟨rfl,⟨_,rfl⟩,rfl,trivial⟩ rfl rfl rfl) (B8 (X5 2 (C4 (⟨nm,2,f,[],M,T,zX⟩:D3)) rfl ⟨.refl _, .refl _, .refl _, .refl _, .refl _, .refl _, .refl _, .refl _, .nil 2, .refl _, .refl _, .refl _, .refl _, .refl _, .refl _, .refl _, .nil 6,trivial⟩) (A5 h0 rfl ⟨rfl,rfl,rfl,trivial⟩ ⟨rfl,⟨_,rfl⟩,trivial⟩ rfl rfl rfl))) ?_;refine F3 (id:=19) ⟨[(7, .b ok)],3,[(0,some (.box [.sl 2 (s.lists.map O7), .sl 7 (s.cols.map L5), .str d.prj, .str d.src, .i d.coh.op, .i d.coh.col, .i d.coh.code, .i d.coh.lo, .i d.coh.hi, .sl 6 (d.coh.kids.map D5), .i d.part, .i d.of, .i d.seed, .row 1 0 (d.qs ++ [(⟨nm,2,f,[],M,T,zX⟩:D3)]).length])),(1,some (.row E9 17 0 ((d.qs ++ [(⟨nm,2,f,[],M,T,zX⟩:D3)]).map C4)))]⟩ ?_ ?_) | refine B0 c1 ?_ | refine B0 c2 ?_ | refine B0 c3 ?_ | refine B0 c5 ?_ | (refine B1 (x:=nm) g0 (by omega) ?_) |refine A1 ?_|refine S1 ?_|refine Z1 ?_|refine Z2 ?_|(refine And.intro ?_ ?_<;>intro h<;>try first|(exfalso;omega)|exact absurd rfl h)|refine Z3 ?_|refine Z4 ?_|intro el hel hbB|intro el hel|intro ex|refine Z5 ?_|(refine A8 ?_ ?_;exact ⟨by kernel_rfl,by decide⟩)|refine A7 ?_ ?_|exact A6|refine A3 ?_ ?_|exact A2|(refine A0 ?_ ?_ ?_;kernel_rfl;kernel_rfl) | refine nc [0,1] [0,0] c4 rfl rfl rfl ⟨rfl,rfl,trivial⟩ ?_ | refine nc [0,1,2] [0,1,0] c6 rfl rfl rfl ⟨rfl,rfl,rfl,trivial⟩ ?_) <;> (try (conv=>whnf)))
 all_goals first
  | (exfalso;omega)
  | exact A5 h0 rfl ⟨rfl,trivial⟩ ⟨congrArg (fun z=>H4.box [.sl 2 (s.lists.map O7), .sl 7 (s.cols.map L5), .str d.prj, .str d.src, .i d.coh.op, .i d.coh.col, .i d.coh.code, .i d.coh.lo, .i d.coh.hi, .sl 6 (d.coh.kids.map D5), .i d.part, .i d.of, .i d.seed, .row 1 0 z]) (by rw [List.length_append];rfl),⟨_,congrArg (H4.row E9 17 _) (by rw [List.map_append];rfl)⟩,trivial⟩ rfl rfl rfl
  | exact D4 (A5 h0 rfl ⟨rfl,trivial⟩ ⟨rfl,⟨_,rfl⟩,trivial⟩ rfl rfl rfl)
  | contradiction
  | (exfalso;simp_all;done)
set_option maxHeartbeats 32000000 in
theorem YT (s:B2) (hr:C8 s = 0) (d:F4) (t:List UInt8) (hl:t.length ≤ 20000) (hql:d.qs.length ≤ 20000) (hdw:t.dropWhile (B6 32) ≠ []) (hw0:0 ≤ H8 t) (hf0:(V1 s t).2 = 0) (hnm:Q6 (E2 (E1 [32] (E4 t)) 0) = true) (hkd:t.takeWhile (B6 32) = Hw):B5 Tryz.prog 50 2 (d8 s d) [.ref 0 0, .str t] 2 (d8 s ⟨d.prj,d.src,d.coh,d.part,d.of,d.seed,d.qs ++ [(Bb s (E4 t) (DN s t)).1]⟩) (.b (Bb s (E4 t) (DN s t)).2):=by
 have hrl:=Cr t
 have c1:=v7 t [32] (by omega)
 rw [Ii] at c1
 have c2:=Z8 (H3 t) J1 (by omega)
 have hroom:=Z9 (t:=H3 t) (w:=J1)
 rw [show J1.length = 7 from rfl] at hroom
 have c3:B3 Tryz.prog 91 [.str (List.drop ((0:Nat):Int).toNat (List.take (H8 t).toNat (H3 t))), .str [32]] (.sl 1 ((E1 [32] (E4 t)).map O1)):=Y7 (E4 t) [32] (by unfold E4;rw [List.length_take];omega) (by simp)
 have hah:(E4 t).length ≤ 20000:=by unfold E4;rw [List.length_take];omega
 have hpos:=Ah 32 (E4 t)
 have hwl:∀ w ∈ E1 [32] (E4 t),w.length ≤ 20000:=fun w hw=>Nat.le_trans (Cq hw) hah
 have hwn:(E1 [32] (E4 t)).length ≤ 20001:=Nat.le_trans (BV [32] _ _) (by omega)
 have hw8:Lib.lastIndex (H3 t) J1 = H8 t:=rfl
 rw [hw8] at c2 hroom
 have h7:=hroom hw0
 have hraw:List.drop (H8 t + 7).toNat (List.take ((H3 t).length:Int).toNat (H3 t)) = (H3 t).drop ((H8 t).toNat + 7):=by
  rw [Int.toNat_natCast,List.take_length,show (H8 t + 7).toNat = (H8 t).toNat + 7 by omega]
 have c4:=l9 s d ((H3 t).drop ((H8 t).toNat + 7)) (by rw [List.length_drop];omega)
 have hfe:V0 s ((H3 t).drop ((H8 t).toNat + 7)) = V1 s t:=rfl
 rw [hfe] at c4
 rw [← hraw] at c4
 have g0:=K4 (ws:=E1 [32] (E4 t)) (i:=0) hpos
 have c5:=v8 (E2 (E1 [32] (E4 t)) 0)
 rw [decide_eq_true hdw] at c1
 rw [hnm] at c5
 simp only [LP]
 clear hnm
 generalize E2 (E1 [32] (E4 t)) 0 = nm at *
 generalize V1 s t = C at *
 obtain ⟨f,fe⟩:=C
 dsimp only at *
 subst hf0
 generalize E1 [32] (E4 t) = ws at *
 have c6:=QK s hr d nm f (E4 t) hah
 obtain ⟨V,M,hD⟩:=Vx s (E4 t) nm f
 generalize Bb s (E4 t) (q0 nm f) = R at *
 obtain ⟨R1,ok⟩:=R
 dsimp only at c6 hD ⊢
 subst hD
 rw [show E4 t = List.drop ((0:Nat):Int).toNat (List.take (H8 t).toNat (H3 t)) from rfl] at c6
 clear hfe hraw hwl hwn hah hroom
 generalize H3 t = r at *
 generalize H8 t = a at *
 generalize hk:t.takeWhile (B6 32) = k at *
 obtain rfl:k = Hw:=hkd
 refine G3 Tryz.func50 82 fun E h0=>?_
 repeat' ((first | (refine E3 19 ?_;refine H6 (id:=19) (σ':=⟨[(0, .ref 0 0),(7, .b ok),(11, .iptr (C4 (⟨nm,3,f,[],M,[],V⟩:D3)))],3,[(0,some (.box (CM s d))),(1,some (.row E9 17 0 (d.qs.map C4)))]⟩) (B8 (A5 (σ':=⟨[(0, .ref 0 0),(7, .b ok),(11, .ref 2 0)],3,[(0,some (.box (CM s d))),(1,some (.row E9 17 0 (d.qs.map C4))),(2,some (.box [.str nm, .i 3, .i f.op, .i f.col, .i f.code, .i f.lo, .i f.hi, .sl 6 (f.kids.map D5),C5, .i M,C5, .i V.op, .i V.col, .i V.code, .i V.lo, .i V.hi, .sl 6 (V.kids.map D5)]))]⟩) h0 rfl ⟨rfl,rfl,rfl,trivial⟩ ⟨rfl,⟨_,rfl⟩,rfl,trivial⟩ rfl rfl rfl) (B8 (X5 2 (C4 (⟨nm,3,f,[],M,[],V⟩:D3)) rfl ⟨.refl _, .refl _, .refl _, .refl _, .refl _, .refl _, .refl _, .refl _, .nil 2, .refl _, .nil 1, .refl _, .refl _, .refl _, .refl _, .refl _, .refl _,trivial⟩) (A5 h0 rfl ⟨rfl,rfl,rfl,trivial⟩ ⟨rfl,⟨_,rfl⟩,trivial⟩ rfl rfl rfl))) ?_;refine F3 (id:=19) ⟨[(7, .b ok)],3,[(0,some (.box [.sl 2 (s.lists.map O7), .sl 7 (s.cols.map L5), .str d.prj, .str d.src, .i d.coh.op, .i d.coh.col, .i d.coh.code, .i d.coh.lo, .i d.coh.hi, .sl 6 (d.coh.kids.map D5), .i d.part, .i d.of, .i d.seed, .row 1 0 (d.qs ++ [(⟨nm,3,f,[],M,[],V⟩:D3)]).length])),(1,some (.row E9 17 0 ((d.qs ++ [(⟨nm,3,f,[],M,[],V⟩:D3)]).map C4)))]⟩ ?_ ?_) | refine B0 c1 ?_ | refine B0 c2 ?_ | refine B0 c3 ?_ | refine B0 c5 ?_ | (refine B1 (x:=nm) g0 (by omega) ?_) |refine A1 ?_|refine S1 ?_|refine Z1 ?_|refine Z2 ?_|(refine And.intro ?_ ?_<;>intro h<;>try first|(exfalso;omega)|exact absurd rfl h)|refine Z3 ?_|refine Z4 ?_|intro el hel hbB|intro el hel|intro ex|refine Z5 ?_|(refine A8 ?_ ?_;exact ⟨by kernel_rfl,by decide⟩)|refine A7 ?_ ?_|exact A6|refine A3 ?_ ?_|exact A2|(refine A0 ?_ ?_ ?_;kernel_rfl;kernel_rfl) | refine nc [0,1] [0,0] c4 rfl rfl rfl ⟨rfl,rfl,trivial⟩ ?_ | refine nc [0,1,2] [0,1,0] c6 rfl rfl rfl ⟨rfl,rfl,rfl,trivial⟩ ?_) <;> (try (conv=>whnf)))
 all_goals first
  | (exfalso;omega)
  | exact A5 h0 rfl ⟨rfl,trivial⟩ ⟨congrArg (fun z=>H4.box [.sl 2 (s.lists.map O7), .sl 7 (s.cols.map L5), .str d.prj, .str d.src, .i d.coh.op, .i d.coh.col, .i d.coh.code, .i d.coh.lo, .i d.coh.hi, .sl 6 (d.coh.kids.map D5), .i d.part, .i d.of, .i d.seed, .row 1 0 z]) (by rw [List.length_append];rfl),⟨_,congrArg (H4.row E9 17 _) (by rw [List.map_append];rfl)⟩,trivial⟩ rfl rfl rfl
  | exact D4 (A5 h0 rfl ⟨rfl,trivial⟩ ⟨rfl,⟨_,rfl⟩,trivial⟩ rfl rfl rfl)
  | contradiction
  | (exfalso;simp_all;done)
set_option maxHeartbeats 32000000 in
theorem YU (s:B2) (hr:C8 s = 0) (d:F4) (t:List UInt8) (hl:t.length ≤ 20000) (hql:d.qs.length ≤ 20000) (hdw:t.dropWhile (B6 32) ≠ []) (hw0:0 ≤ H8 t) (hf0:(V1 s t).2 = 0) (hnm:Q6 (E2 (E1 [32] (E4 t)) 0) = true) (hk1:¬ t.takeWhile (B6 32) = Hu) (hk2:¬ t.takeWhile (B6 32) = Hv) (hk3:¬ t.takeWhile (B6 32) = Hw):B5 Tryz.prog 50 2 (d8 s d) [.ref 0 0, .str t] 2 (d8 s ⟨d.prj,d.src,d.coh,d.part,d.of,d.seed,d.qs ++ [(DN s t,false).1]⟩) (.b (DN s t,false).2):=by
 have hrl:=Cr t
 have c1:=v7 t [32] (by omega)
 rw [Ii] at c1
 have c2:=Z8 (H3 t) J1 (by omega)
 have hroom:=Z9 (t:=H3 t) (w:=J1)
 rw [show J1.length = 7 from rfl] at hroom
 have c3:B3 Tryz.prog 91 [.str (List.drop ((0:Nat):Int).toNat (List.take (H8 t).toNat (H3 t))), .str [32]] (.sl 1 ((E1 [32] (E4 t)).map O1)):=Y7 (E4 t) [32] (by unfold E4;rw [List.length_take];omega) (by simp)
 have hah:(E4 t).length ≤ 20000:=by unfold E4;rw [List.length_take];omega
 have hpos:=Ah 32 (E4 t)
 have hwl:∀ w ∈ E1 [32] (E4 t),w.length ≤ 20000:=fun w hw=>Nat.le_trans (Cq hw) hah
 have hwn:(E1 [32] (E4 t)).length ≤ 20001:=Nat.le_trans (BV [32] _ _) (by omega)
 have hw8:Lib.lastIndex (H3 t) J1 = H8 t:=rfl
 rw [hw8] at c2 hroom
 have h7:=hroom hw0
 have hraw:List.drop (H8 t + 7).toNat (List.take ((H3 t).length:Int).toNat (H3 t)) = (H3 t).drop ((H8 t).toNat + 7):=by
  rw [Int.toNat_natCast,List.take_length,show (H8 t + 7).toNat = (H8 t).toNat + 7 by omega]
 have c4:=l9 s d ((H3 t).drop ((H8 t).toNat + 7)) (by rw [List.length_drop];omega)
 have hfe:V0 s ((H3 t).drop ((H8 t).toNat + 7)) = V1 s t:=rfl
 rw [hfe] at c4
 rw [← hraw] at c4
 have g0:=K4 (ws:=E1 [32] (E4 t)) (i:=0) hpos
 have c5:=v8 (E2 (E1 [32] (E4 t)) 0)
 rw [decide_eq_true hdw] at c1
 rw [hnm] at c5
 simp only [LP]
 clear hnm
 generalize E2 (E1 [32] (E4 t)) 0 = nm at *
 generalize V1 s t = C at *
 obtain ⟨f,fe⟩:=C
 dsimp only at *
 subst hf0
 generalize E1 [32] (E4 t) = ws at *
 obtain ⟨ok,hok⟩:∃ ok,ok = false:=⟨false,rfl⟩
 rw [← hok]
 clear hfe hraw hwl hwn hah hroom
 generalize H3 t = r at *
 generalize H8 t = a at *
 generalize hk:t.takeWhile (B6 32) = k at *
 refine G3 Tryz.func50 82 fun E h0=>?_
 repeat' ((first | (refine E3 19 ?_;refine H6 (id:=19) (σ':=⟨[(0, .ref 0 0),(7, .b false),(11, .iptr (C4 (⟨nm,0,f,[],0,[],zX⟩:D3)))],3,[(0,some (.box (CM s d))),(1,some (.row E9 17 0 (d.qs.map C4)))]⟩) (B8 (A5 (σ':=⟨[(0, .ref 0 0),(7, .b false),(11, .ref 2 0)],3,[(0,some (.box (CM s d))),(1,some (.row E9 17 0 (d.qs.map C4))),(2,some (.box [.str nm, .i 0, .i f.op, .i f.col, .i f.code, .i f.lo, .i f.hi, .sl 6 (f.kids.map D5),C5, .i 0,C5, .i 0, .i 0, .i 0, .i 0, .i 0,C5]))]⟩) h0 rfl ⟨rfl,rfl,rfl,trivial⟩ ⟨rfl,⟨_,rfl⟩,rfl,trivial⟩ rfl rfl rfl) (B8 (X5 2 (C4 (⟨nm,0,f,[],0,[],zX⟩:D3)) rfl ⟨.refl _, .refl _, .refl _, .refl _, .refl _, .refl _, .refl _, .refl _, .nil 2, .refl _, .nil 1, .refl _, .refl _, .refl _, .refl _, .refl _, .nil 6,trivial⟩) (A5 h0 rfl ⟨rfl,rfl,rfl,trivial⟩ ⟨rfl,⟨_,rfl⟩,trivial⟩ rfl rfl rfl))) ?_;refine F3 (id:=19) ⟨[(7, .b false)],3,[(0,some (.box [.sl 2 (s.lists.map O7), .sl 7 (s.cols.map L5), .str d.prj, .str d.src, .i d.coh.op, .i d.coh.col, .i d.coh.code, .i d.coh.lo, .i d.coh.hi, .sl 6 (d.coh.kids.map D5), .i d.part, .i d.of, .i d.seed, .row 1 0 (d.qs ++ [(⟨nm,0,f,[],0,[],zX⟩:D3)]).length])),(1,some (.row E9 17 0 ((d.qs ++ [(⟨nm,0,f,[],0,[],zX⟩:D3)]).map C4)))]⟩ ?_ ?_) | refine B0 c1 ?_ | refine B0 c2 ?_ | refine B0 c3 ?_ | refine B0 c5 ?_ | (refine B1 (x:=nm) g0 (by omega) ?_) |refine A1 ?_|refine S1 ?_|refine Z1 ?_|refine Z2 ?_|(refine And.intro ?_ ?_<;>intro h<;>try first|(exfalso;omega)|exact absurd rfl h)|refine Z3 ?_|refine Z4 ?_|intro el hel hbB|intro el hel|intro ex|refine Z5 ?_|(refine A8 ?_ ?_;exact ⟨by kernel_rfl,by decide⟩)|refine A7 ?_ ?_|exact A6|refine A3 ?_ ?_|exact A2|(refine A0 ?_ ?_ ?_;kernel_rfl;kernel_rfl) | refine nc [0,1] [0,0] c4 rfl rfl rfl ⟨rfl,rfl,trivial⟩ ?_) <;> (try (conv=>whnf)))
 all_goals first
  | (exfalso;omega)
  | exact A5 h0 rfl ⟨rfl,trivial⟩ ⟨congrArg (fun z=>H4.box [.sl 2 (s.lists.map O7), .sl 7 (s.cols.map L5), .str d.prj, .str d.src, .i d.coh.op, .i d.coh.col, .i d.coh.code, .i d.coh.lo, .i d.coh.hi, .sl 6 (d.coh.kids.map D5), .i d.part, .i d.of, .i d.seed, .row 1 0 z]) (by rw [List.length_append];rfl),⟨_,congrArg (H4.row E9 17 _) (by rw [List.map_append];rfl)⟩,trivial⟩ rfl rfl rfl
  | (subst hok;exact D4 (A5 h0 rfl ⟨rfl,trivial⟩ ⟨rfl,⟨_,rfl⟩,trivial⟩ rfl rfl rfl))
  | contradiction
  | (exfalso;simp_all;done)
theorem MQ (s:B2) (hr:C8 s = 0) (d:F4) (t:List UInt8) (hl:t.length ≤ 20000) (hql:d.qs.length ≤ 20000):B5 Tryz.prog 50 2 (d8 s d) [.ref 0 0, .str t] 2 (d8 s (DY s d t).1) (.b (DY s d t).2):=by
 unfold DY
 by_cases he:t.dropWhile (B6 32) = [] ∨ H8 t < 0
 ·rw [if_pos he]
  exact Tw s d t hl he
 rw [if_neg he]
 have hdw:t.dropWhile (B6 32) ≠ []:=fun h=>he (.inl h)
 have hw0:0 ≤ H8 t:=by omega
 by_cases hb:¬ (V1 s t).2 = 0 ∨ Q6 (E2 (E1 [32] (E4 t)) 0) = false
 ·rw [if_pos hb]
  exact YQ s d t hl hdw hw0 hb
 rw [if_neg hb]
 have hf0:(V1 s t).2 = 0:=Decidable.of_not_not fun h=>hb (.inl h)
 have hnm:Q6 (E2 (E1 [32] (E4 t)) 0) = true:=by
  cases h:Q6 (E2 (E1 [32] (E4 t)) 0)
  ·exact absurd (.inr h) hb
  ·rfl
 unfold Hz
 by_cases k1:t.takeWhile (B6 32) = Hu
 ·rw [if_pos k1]
  exact YR s hr d t hl hql hdw hw0 hf0 hnm k1
 rw [if_neg k1]
 by_cases k2:t.takeWhile (B6 32) = Hv
 ·rw [if_pos k2]
  exact YS s hr d t hl hql hdw hw0 hf0 hnm k2
 rw [if_neg k2]
 by_cases k3:t.takeWhile (B6 32) = Hw
 ·rw [if_pos k3]
  exact YT s hr d t hl hql hdw hw0 hf0 hnm k3
 rw [if_neg k3]
 exact YU s hr d t hl hql hdw hw0 hf0 hnm k1 k2 k3
end Go.Proofs.YthkklceofokkmaaGreatDoor

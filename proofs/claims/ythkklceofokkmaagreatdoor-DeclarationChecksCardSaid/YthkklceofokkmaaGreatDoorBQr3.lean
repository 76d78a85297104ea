/- Chapter 8: the program's reader: tables, models, curves. -/
import Derived.Test.YthkklceofokkmaaGreatDoorBQr2
set_option linter.unusedVariables false
set_option linter.unnecessarySimpa false
set_option linter.unusedSimpArgs false
namespace Go.Proofs.YthkklceofokkmaaGreatDoor
open Go Go.Av
attribute [local irreducible] E5 B7 E6 E7 DQ E8 F0 St.le B3 B5
set_option maxRecDepth 100000
abbrev FH:Nat:=59
abbrev q0 (nm:List UInt8) (f:A4):D3:=⟨nm,0,f,[],0,[],zX⟩
abbrev de (nm:List UInt8) (f:A4):List AV:=[.str nm, .i 0, .i f.op, .i f.col, .i f.code, .i f.lo, .i f.hi, .sl 6 (f.kids.map D5),C5, .i 0,C5, .i 0, .i 0, .i 0, .i 0, .i 0,C5]
abbrev Vu (s:B2) (d:F4) (l:List AV):Hp:=[(0,some (.box (CM s d))),(1,some (.row E9 17 0 (d.qs.map C4))),(2,some (.box l))]
theorem Jo {s:B2}:∀ {l:List (List UInt8)} {k:Nat} {w:List UInt8},(l.take k).any (r8 s) = false → l[k]? = some w → r8 s w = false → Z0 s (l.take (k + 1)) = Z0 s (l.take k) ++ [LK s w] ∧ (l.take (k + 1)).any (r8 s) = false
 | [],k,w,_,h,_=>by simp at h
 | x :: r,0,w,_,h,hw=>by
   simp at h
   subst h
   rw [List.take_succ_cons,List.take_zero,List.take_zero]
   exact ⟨by simp [Z0,hw],by simp [hw]⟩
 | x :: r,k + 1,w,hb,h,hw=>by
   rw [List.take_succ_cons,List.any_cons,Bool.or_eq_false_iff] at hb
   obtain ⟨i1,i2⟩:=Jo (s:=s) (l:=r) (k:=k) (w:=w) hb.2 (by simpa using h) hw
   rw [List.take_succ_cons,List.take_succ_cons,Z0,if_neg (by rw [hb.1];simp),Z0,if_neg (by rw [hb.1];simp),i1]
   exact ⟨rfl,by rw [List.any_cons,hb.1,i2];rfl⟩
theorem Jp {s:B2}:∀ {l:List (List UInt8)} {k:Nat} {w:List UInt8},(l.take k).any (r8 s) = false → l[k]? = some w → r8 s w = true → Z0 s l = Z0 s (l.take k) ∧ l.any (r8 s) = true
 | [],k,w,_,h,_=>by simp at h
 | x :: r,0,w,_,h,hw=>by
   simp at h
   subst h
   rw [List.take_zero]
   exact ⟨by simp [Z0,hw],by simp [hw]⟩
 | x :: r,k + 1,w,hb,h,hw=>by
   rw [List.take_succ_cons,List.any_cons,Bool.or_eq_false_iff] at hb
   obtain ⟨i1,i2⟩:=Jp (s:=s) (l:=r) (k:=k) (w:=w) hb.2 (by simpa using h) hw
   rw [List.take_succ_cons,Z0,if_neg (by rw [hb.1];simp),Z0,if_neg (by rw [hb.1];simp),i1]
   exact ⟨rfl,by rw [List.any_cons,hb.1,i2];rfl⟩
theorem MO {s:B2}:∀ l:List (List UInt8),(Z0 s l).length ≤ l.length
 | []=>Nat.le_refl _
 | x :: r=>by
   rw [Z0]
   split
   ·simp
   ·have:=MO (s:=s) r
    rw [List.length_cons,List.length_cons];omega
theorem Zl (w:List UInt8):Lib.cut w [47] = (w.takeWhile (B6 47),(w.dropWhile (B6 47)).drop 1,decide (w.dropWhile (B6 47) ≠ [])):=Ig 47 w
abbrev ft (nm:List UInt8) (f:A4) (R:D3):List AV:=[.str nm, .i 1, .i f.op, .i f.col, .i f.code, .i f.lo, .i f.hi, .sl 6 (f.kids.map D5), .row 3 0 R.dims.length, .i R.mea,C5, .i 0, .i 0, .i 0, .i 0, .i 0,C5]
abbrev fu (s:B2) (d:F4) (nm:List UInt8) (f:A4) (R:D3):Hp:=[(0,some (.box (CM s d))),(1,some (.row E9 17 0 (d.qs.map C4))),(2,some (.box (ft nm f R))),(3,some (.row FH 2 0 (R.dims.map P8)))]
set_option maxHeartbeats 32000000 in
theorem QH (s:B2) (hr:C8 s = 0) (d:F4) (nm:List UInt8) (f:A4) (ws:List (List UInt8)) (hw:∀ w ∈ ws,w.length ≤ 20000) (hl:ws.length ≤ 20001):B5 Tryz.prog 94 3 (Vu s d (de nm f)) [.ref 0 0, .sl 1 (ws.map O1), .ref 2 0] 4 (fu s d nm f (BZ s ws (q0 nm f)).1) (.b (BZ s ws (q0 nm f)).2):=by
 generalize hR:BZ s ws (q0 nm f) = R
 obtain ⟨R1,R2⟩:=R
 dsimp only
 unfold BZ at hR
 by_cases h3:ws.length < 3
 ·rw [if_pos (.inl h3)] at hR
  cases hR
  refine G3 Tryz.func94 119 fun E h0=>?_
  repeat' ((first|refine A1 ?_|refine S1 ?_|refine Z1 ?_|refine Z2 ?_|(refine And.intro ?_ ?_<;>intro h<;>try first|(exfalso;omega)|exact absurd rfl h)|refine Z3 ?_|refine Z4 ?_|intro el hel hbB|intro el hel|intro ex|refine Z5 ?_|(refine A8 ?_ ?_;exact ⟨by kernel_rfl,by decide⟩)|refine A7 ?_ ?_|exact A6|refine A3 ?_ ?_|exact A2|(refine A0 ?_ ?_ ?_;kernel_rfl;kernel_rfl)) <;> (try (conv=>whnf)))
  all_goals first
   | (exfalso;omega)
   | exact D4 (B8 (Z6 2 8 (e:=FH) (sz:=2) rfl rfl) (A5 h0 rfl ⟨rfl,trivial⟩ ⟨rfl,⟨_,rfl⟩,rfl,⟨_,rfl⟩,trivial⟩ rfl rfl rfl))
 have g1:=K4 (ws:=ws) (i:=1) (by omega)
 generalize E2 ws 1 = w1 at *
 by_cases hby:¬ w1 = Db
 ·rw [if_pos (.inr hby)] at hR
  cases hR
  refine G3 Tryz.func94 119 fun E h0=>?_
  repeat' ((first | (refine B1 (x:=w1) g1 (by omega) ?_) |refine A1 ?_|refine S1 ?_|refine Z1 ?_|refine Z2 ?_|(refine And.intro ?_ ?_<;>intro h<;>try first|(exfalso;omega)|exact absurd rfl h)|refine Z3 ?_|refine Z4 ?_|intro el hel hbB|intro el hel|intro ex|refine Z5 ?_|(refine A8 ?_ ?_;exact ⟨by kernel_rfl,by decide⟩)|refine A7 ?_ ?_|exact A6|refine A3 ?_ ?_|exact A2|(refine A0 ?_ ?_ ?_;kernel_rfl;kernel_rfl)) <;> (try (conv=>whnf)))
  all_goals first
   | (exfalso;omega)
   | contradiction
   | exact D4 (B8 (Z6 2 8 (e:=FH) (sz:=2) rfl rfl) (A5 h0 rfl ⟨rfl,trivial⟩ ⟨rfl,⟨_,rfl⟩,rfl,⟨_,rfl⟩,trivial⟩ rfl rfl rfl))
 rw [if_neg (by rintro (h | h);(exact h3 h);exact hby h)] at hR
 obtain rfl:w1 = Db:=Decidable.of_not_not hby
 have hraw:List.drop (2:Int).toNat (List.take (((ws.map O1).length:Nat):Int).toNat (ws.map O1)) = (ws.drop 2).map O1:=by
  rw [Int.toNat_natCast,show (2:Int).toNat = 2 from rfl,List.take_length,List.map_drop]
 have hdw:∀ w ∈ ws.drop 2,w.length ≤ 20000:=fun w h=>hw w (List.mem_of_mem_drop h)
 have hdl:(ws.drop 2).length = ws.length - 2:=List.length_drop
 have hne:1 ≤ (ws.drop 2).length:=by omega
 clear hw hby
 generalize hV:ws.drop 2 = V at *
 by_cases hsum:2 ≤ V.length ∧ E2 V (V.length - 2) = u9
 ·rw [if_pos hsum] at hR
  obtain ⟨hs2,hs3⟩:=hsum
  have g2:=K4 (ws:=V) (i:=V.length - 2) (by omega)
  rw [hs3] at g2
  have g2':V[((V.length:Int) - 2).toNat]? = some u9:=by rw [show ((V.length:Int) - 2).toNat = V.length - 2 by omega];exact g2
  have hraw2:List.drop ((V.length:Int) - 1).toNat (List.take (((V.map O1).length:Nat):Int).toNat (V.map O1)) = (V.drop (V.length - 1)).map O1:=by
   rw [Int.toNat_natCast,show ((V.length:Int) - 1).toNat = V.length - 1 by omega,List.take_length,List.map_drop]
  have hraw3:List.drop ((0:Nat):Int).toNat (List.take ((V.length:Int) - 2).toNat (V.map O1)) = (V.take (V.length - 2)).map O1:=by
   rw [show ((V.length:Int) - 2).toNat = V.length - 2 by omega,List.map_take];rfl
  have hcol:=BK s hr d (V.drop (V.length - 1)) (by rw [List.length_drop];omega)
  rw [← hraw2] at hcol
  have hc2:(I9 s (V.drop (V.length - 1))).2 = true → ∃ c0,(I9 s (V.drop (V.length - 1))).1[0]? = some c0 ∧ (I9 s (V.drop (V.length - 1))).1.getD 0 0 = c0:=by
   intro hb
   unfold I9 at hb ⊢
   split at hb
   ·cases hb
   ·rename_i hcb
    rw [if_neg hcb]
    dsimp only at hb ⊢
    have hl0:=Jn (s:=s) (l:=V.drop (V.length - 1)) (by simpa using hcb)
    have hlp:0 < (V.drop (V.length - 1)).length:=of_decide_eq_true hb
    refine ⟨_,List.getElem?_eq_getElem (by omega),?_⟩
    rw [List.getD_eq_getElem?_getD,List.getElem?_eq_getElem (by omega)];rfl
  have hdt:∀ w ∈ V.take (V.length - 2),w.length ≤ 20000:=fun w h=>hdw w (List.mem_of_mem_take h)
  have hlt2:(V.take (V.length - 2)).length ≤ V.length:=by rw [List.length_take];omega
  generalize I9 s (V.drop (V.length - 1)) = C at *
  obtain ⟨C1,C2⟩:=C
  dsimp only at hcol hc2 hR
  cases C2 with
  | false =>
    rw [if_pos rfl] at hR
    cases hR
    refine G3 Tryz.func94 119 fun E h0=>?_
    repeat' ((first | (refine Cf (σ':=⟨[(0, .ref 0 0),(2, .ref 2 0),(7, .sl 1 (V.map O1))],3,[(0,some (.box (CM s d))),(1,some (.row E9 17 0 (d.qs.map C4))),(2,some (.box [.str nm, .i 1, .i f.op, .i f.col, .i f.code, .i f.lo, .i f.hi, .sl 6 (f.kids.map D5),C5, .i (-1),C5, .i 0, .i 0, .i 0, .i 0, .i 0,C5]))]⟩) (A5 h0 rfl ⟨rfl,rfl,congrArg (fun z=>some (AV.sl 1 z)) hraw,trivial⟩ ⟨rfl,⟨_,rfl⟩,rfl,trivial⟩ rfl rfl rfl) ?_) | (refine B1 (x:=Db) g1 (by omega) ?_) | (refine B1 (x:=u9) g2' (by omega) ?_) |refine A1 ?_|refine S1 ?_|refine Z1 ?_|refine Z2 ?_|(refine And.intro ?_ ?_<;>intro h<;>try first|(exfalso;omega)|exact absurd rfl h)|refine Z3 ?_|refine Z4 ?_|intro el hel hbB|intro el hel|intro ex|refine Z5 ?_|(refine A8 ?_ ?_;exact ⟨by kernel_rfl,by decide⟩)|refine A7 ?_ ?_|exact A6|refine A3 ?_ ?_|exact A2|(refine A0 ?_ ?_ ?_;kernel_rfl;kernel_rfl) | refine nc [0,1] [0,0] hcol rfl rfl rfl ⟨rfl,rfl,trivial⟩ ?_) <;> (try (conv=>whnf)))
    all_goals first
     | (exfalso;omega)
     | contradiction
     | exact D4 (B8 (Z6 2 8 (e:=FH) (sz:=2) rfl rfl) (A5 h0 rfl ⟨rfl,trivial⟩ ⟨rfl,⟨_,rfl⟩,rfl,⟨_,rfl⟩,trivial⟩ rfl rfl rfl))
  | true =>
    rw [if_neg (by simp)] at hR
    obtain ⟨c0,gc,gd⟩:=hc2 rfl
    rw [gd] at hR
    refine G3 Tryz.func94 119 fun E h0=>?_
    repeat' ((first | (refine Cf (σ':=⟨[(0, .ref 0 0),(2, .ref 2 0),(7, .sl 1 (V.map O1))],3,[(0,some (.box (CM s d))),(1,some (.row E9 17 0 (d.qs.map C4))),(2,some (.box [.str nm, .i 1, .i f.op, .i f.col, .i f.code, .i f.lo, .i f.hi, .sl 6 (f.kids.map D5),C5, .i (-1),C5, .i 0, .i 0, .i 0, .i 0, .i 0,C5]))]⟩) (A5 h0 rfl ⟨rfl,rfl,congrArg (fun z=>some (AV.sl 1 z)) hraw,trivial⟩ ⟨rfl,⟨_,rfl⟩,rfl,trivial⟩ rfl rfl rfl) ?_) | (refine F3 (id:=10) ⟨[(0, .ref 0 0),(2, .ref 2 0),(7, .sl 1 ((V.take (V.length - 2)).map O1))],3,[(0,some (.box (CM s d))),(1,some (.row E9 17 0 (d.qs.map C4))),(2,some (.box [.str nm, .i 1, .i f.op, .i f.col, .i f.code, .i f.lo, .i f.hi, .sl 6 (f.kids.map D5),C5, .i c0,C5, .i 0, .i 0, .i 0, .i 0, .i 0,C5]))]⟩ ?_ ?_) | (refine B1 (x:=Db) g1 (by omega) ?_) | (refine B1 (x:=u9) g2' (by omega) ?_) | (refine B1 (x:=c0) gc (by omega) ?_) |refine A1 ?_|refine S1 ?_|refine Z1 ?_|refine Z2 ?_|(refine And.intro ?_ ?_<;>intro h<;>try first|(exfalso;omega)|exact absurd rfl h)|refine Z3 ?_|refine Z4 ?_|intro el hel hbB|intro el hel|intro ex|refine Z5 ?_|(refine A8 ?_ ?_;exact ⟨by kernel_rfl,by decide⟩)|refine A7 ?_ ?_|exact A6|refine A3 ?_ ?_|exact A2|(refine A0 ?_ ?_ ?_;kernel_rfl;kernel_rfl) | refine nc [0,1] [0,0] hcol rfl rfl rfl ⟨rfl,rfl,trivial⟩ ?_) <;> (try (conv=>whnf)))
    all_goals first
     | (exfalso;omega)
     | contradiction
     | exact A5 h0 rfl ⟨rfl,rfl,congrArg (fun z=>some (AV.sl 1 z)) hraw3,trivial⟩ ⟨rfl,⟨_,rfl⟩,rfl,trivial⟩ rfl rfl rfl
     | skip
    unfold Gm at hR
    dsimp only at hR
    refine D8 (ι:=Nat) (fun k=>⟨[(0, .ref 0 0),(2, .ref 2 0),(7, .sl 1 ((V.take (V.length - 2)).map O1)),(69, .sl 1 ((V.take (V.length - 2)).map O1)),(70, .i (V.take (V.length - 2)).length),(71, .i k)],4,[(0,some (.box (CM s d))),(1,some (.row E9 17 0 (d.qs.map C4))),(2,some (.box [.str nm, .i 1, .i f.op, .i f.col, .i f.code, .i f.lo, .i f.hi, .sl 6 (f.kids.map D5), .row 3 0 (Z0 s ((V.take (V.length - 2)).take k)).length, .i (c0),C5, .i 0, .i 0, .i 0, .i 0, .i 0,C5])),(3,some (.row FH 2 0 ((Z0 s ((V.take (V.length - 2)).take k)).map P8)))]⟩) (fun k=>k ≤ (V.take (V.length - 2)).length ∧ ((V.take (V.length - 2)).take k).any (r8 s) = false) (fun k=>(V.take (V.length - 2)).length - k) 0 ⟨Nat.zero_le _,rfl⟩
     (by refine B8 (Z6 2 8 (e:=FH) (sz:=2) rfl rfl) ?_;exact A5 h0 rfl ⟨rfl,rfl,rfl,rfl,rfl,rfl,trivial⟩ ⟨rfl,⟨_,rfl⟩,rfl,⟨0,rfl⟩,trivial⟩ rfl rfl rfl) (fun k hI=>?_)
    obtain ⟨hk,hI⟩:=hI
    have hdl:=MO (s:=s) ((V.take (V.length - 2)).take k)
    have htl:((V.take (V.length - 2)).take k).length ≤ (V.take (V.length - 2)).length:=by rw [List.length_take];omega
    by_cases hlt:k < (V.take (V.length - 2)).length
    ·obtain ⟨w,hwk⟩:∃ w,(V.take (V.length - 2))[k]? = some w:=⟨_,List.getElem?_eq_getElem hlt⟩
     have hwl:=hdt w (List.mem_of_getElem? hwk)
     have c1:=v7 w [47] (by omega)
     rw [Zl] at c1
     have lt1:=w8 (B6 47) w
     have lt2:=T8 (B6 47) w
     have h1:=Dl s (w.takeWhile (B6 47))
     have h2:=Ag ((w.dropWhile (B6 47)).drop 1) (by rw [List.length_drop];omega)
     have hsn:=Jo (s:=s) hI hwk
     have hst:=Jp (s:=s) hI hwk
     have hdb:r8 s w = (decide (J3 s (w.takeWhile (B6 47)) < 0) || !(J7 ((w.dropWhile (B6 47)).drop 1)).2):=rfl
     have hdd:LK s w = ⟨J3 s (w.takeWhile (B6 47)),(J7 ((w.dropWhile (B6 47)).drop 1)).1⟩:=rfl
     rw [hdb] at hsn hst
     rw [hdd] at hsn
     clear hdb hdd
     generalize J3 s (w.takeWhile (B6 47)) = c at *
     generalize J7 ((w.dropWhile (B6 47)).drop 1) = V at *
     obtain ⟨v,b⟩:=V
     dsimp only at h2 hsn hst
     generalize w.takeWhile (B6 47) = u1 at *
     generalize (w.dropWhile (B6 47)).drop 1 = u2 at *
     generalize decide (w.dropWhile (B6 47) ≠ []) = u3 at *
     generalize Z0 s ((V.take (V.length - 2)).take k) = A at *
     have hAl:A.length ≤ 20000:=by omega
     clear hr
     cases b with
     | true =>
       repeat' ((first | (refine B1 (x:=w) hwk (by omega) ?_) | refine B0 c1 ?_ | refine B0 h1 ?_ | refine B0 h2 ?_ |refine A1 ?_|refine S1 ?_|refine Z1 ?_|refine Z2 ?_|(refine And.intro ?_ ?_<;>intro h<;>try first|(exfalso;omega)|exact absurd rfl h)|refine Z3 ?_|refine Z4 ?_|intro el hel hbB|intro el hel|intro ex|refine Z5 ?_|(refine A8 ?_ ?_;exact ⟨by kernel_rfl,by decide⟩)|refine A7 ?_ ?_|exact A6|refine A3 ?_ ?_|exact A2|(refine A0 ?_ ?_ ?_;kernel_rfl;kernel_rfl)) <;> (try (conv=>whnf)))
       all_goals first
        | (exfalso;omega)
        | (obtain ⟨q1,q2⟩:=hst (by simp;omega);rw [q1] at hR;rw [q2,Bool.not_true,Bool.and_false] at hR;cases hR;exact D4 (A5 h0 rfl ⟨rfl,trivial⟩ ⟨rfl,⟨_,rfl⟩,rfl,⟨_,rfl⟩,trivial⟩ rfl rfl rfl))
        | (obtain ⟨q1,q2⟩:=hsn (by simp;omega);exact ⟨k + 1,⟨by omega,q2⟩,by omega,by rw [q1];exact A5 h0 rfl ⟨rfl,rfl,rfl,rfl,rfl,congrArg (fun z:Int=>some (AV.i z)) (by omega),trivial⟩ ⟨rfl,⟨_,rfl⟩,congrArg (fun z=>H4.box [.str nm, .i 1, .i f.op, .i f.col, .i f.code, .i f.lo, .i f.hi, .sl 6 (f.kids.map D5), .row 3 0 z, .i (c0),C5, .i 0, .i 0, .i 0, .i 0, .i 0,C5]) (by rw [List.length_append];rfl),⟨_,congrArg (H4.row FH 2 _) (by rw [List.map_append];rfl)⟩,trivial⟩ rfl rfl rfl⟩)
     | false =>
       repeat' ((first | (refine B1 (x:=w) hwk (by omega) ?_) | refine B0 c1 ?_ | refine B0 h1 ?_ | refine B0 h2 ?_ |refine A1 ?_|refine S1 ?_|refine Z1 ?_|refine Z2 ?_|(refine And.intro ?_ ?_<;>intro h<;>try first|(exfalso;omega)|exact absurd rfl h)|refine Z3 ?_|refine Z4 ?_|intro el hel hbB|intro el hel|intro ex|refine Z5 ?_|(refine A8 ?_ ?_;exact ⟨by kernel_rfl,by decide⟩)|refine A7 ?_ ?_|exact A6|refine A3 ?_ ?_|exact A2|(refine A0 ?_ ?_ ?_;kernel_rfl;kernel_rfl)) <;> (try (conv=>whnf)))
       all_goals first
        | (exfalso;omega)
        | (obtain ⟨q1,q2⟩:=hst (by simp);rw [q1] at hR;rw [q2,Bool.not_true,Bool.and_false] at hR;cases hR;exact D4 (A5 h0 rfl ⟨rfl,trivial⟩ ⟨rfl,⟨_,rfl⟩,rfl,⟨_,rfl⟩,trivial⟩ rfl rfl rfl))
    ·obtain rfl:k = (V.take (V.length - 2)).length:=by omega
     rw [List.take_length] at hI hdl ⊢
     rw [hI] at hR
     generalize Z0 s (V.take (V.length - 2)) = A at *
     clear hr hI
     repeat' ((first|refine A1 ?_|refine S1 ?_|refine Z1 ?_|refine Z2 ?_|(refine And.intro ?_ ?_<;>intro h<;>try first|(exfalso;omega)|exact absurd rfl h)|refine Z3 ?_|refine Z4 ?_|intro el hel hbB|intro el hel|intro ex|refine Z5 ?_|(refine A8 ?_ ?_;exact ⟨by kernel_rfl,by decide⟩)|refine A7 ?_ ?_|exact A6|refine A3 ?_ ?_|exact A2|(refine A0 ?_ ?_ ?_;kernel_rfl;kernel_rfl)) <;> (try (conv=>whnf)))
     all_goals first
      | (exfalso;omega)
      | (rw [Bool.not_false,Bool.and_true] at hR;cases hR;exact D4 (A5 h0 rfl ⟨congrArg (fun z:Bool=>some (AV.b z)) (by rw [eq_comm,decide_eq_false_iff_not];omega),trivial⟩ ⟨rfl,⟨_,rfl⟩,rfl,⟨_,rfl⟩,trivial⟩ rfl rfl rfl))
      | (rw [Bool.not_false,Bool.and_true] at hR;cases hR;exact D4 (A5 h0 rfl ⟨congrArg (fun z:Bool=>some (AV.b z)) (by rw [decide_eq_decide];omega),trivial⟩ ⟨rfl,⟨_,rfl⟩,rfl,⟨_,rfl⟩,trivial⟩ rfl rfl rfl))
 ·rw [if_neg hsum] at hR
  have g2:2 ≤ V.length → V[((V.length:Int) - 2).toNat]? = some (E2 V (V.length - 2)):=fun h=>by rw [show ((V.length:Int) - 2).toNat = V.length - 2 by omega];exact K4 (by omega)
  generalize E2 V (V.length - 2) = w2 at *
  refine G3 Tryz.func94 119 fun E h0=>?_
  repeat' ((first | (refine Cf (σ':=⟨[(0, .ref 0 0),(2, .ref 2 0),(7, .sl 1 (V.map O1))],3,[(0,some (.box (CM s d))),(1,some (.row E9 17 0 (d.qs.map C4))),(2,some (.box [.str nm, .i 1, .i f.op, .i f.col, .i f.code, .i f.lo, .i f.hi, .sl 6 (f.kids.map D5),C5, .i (-1),C5, .i 0, .i 0, .i 0, .i 0, .i 0,C5]))]⟩) (A5 h0 rfl ⟨rfl,rfl,congrArg (fun z=>some (AV.sl 1 z)) hraw,trivial⟩ ⟨rfl,⟨_,rfl⟩,rfl,trivial⟩ rfl rfl rfl) ?_) | (refine B1 (x:=Db) g1 (by omega) ?_) | (refine B1 (x:=w2) (g2 (by omega)) (by omega) ?_) |refine A1 ?_|refine S1 ?_|refine Z1 ?_|refine Z2 ?_|(refine And.intro ?_ ?_<;>intro h<;>try first|(exfalso;omega)|exact absurd rfl h)|refine Z3 ?_|refine Z4 ?_|intro el hel hbB|intro el hel|intro ex|refine Z5 ?_|(refine A8 ?_ ?_;exact ⟨by kernel_rfl,by decide⟩)|refine A7 ?_ ?_|exact A6|refine A3 ?_ ?_|exact A2|(refine A0 ?_ ?_ ?_;kernel_rfl;kernel_rfl)) <;> (try (conv=>whnf)))
  all_goals first
   | (exfalso;omega)
   | (exfalso;exact hsum ⟨by omega,by assumption⟩)
   | contradiction
   | skip
  all_goals
   unfold Gm at hR
   dsimp only at hR
   refine D8 (ι:=Nat) (fun k=>⟨[(0, .ref 0 0),(2, .ref 2 0),(7, .sl 1 (V.map O1)),(69, .sl 1 (V.map O1)),(70, .i V.length),(71, .i k)],4,[(0,some (.box (CM s d))),(1,some (.row E9 17 0 (d.qs.map C4))),(2,some (.box [.str nm, .i 1, .i f.op, .i f.col, .i f.code, .i f.lo, .i f.hi, .sl 6 (f.kids.map D5), .row 3 0 (Z0 s (V.take k)).length, .i (-1),C5, .i 0, .i 0, .i 0, .i 0, .i 0,C5])),(3,some (.row FH 2 0 ((Z0 s (V.take k)).map P8)))]⟩) (fun k=>k ≤ V.length ∧ (V.take k).any (r8 s) = false) (fun k=>V.length - k) 0 ⟨Nat.zero_le _,rfl⟩
    (by refine B8 (Z6 2 8 (e:=FH) (sz:=2) rfl rfl) ?_;exact A5 h0 rfl ⟨rfl,rfl,rfl,rfl,rfl,rfl,trivial⟩ ⟨rfl,⟨_,rfl⟩,rfl,⟨0,rfl⟩,trivial⟩ rfl rfl rfl) (fun k hI=>?_)
   obtain ⟨hk,hI⟩:=hI
   have hdl:=MO (s:=s) (V.take k)
   have htl:(V.take k).length ≤ V.length:=by rw [List.length_take];omega
   by_cases hlt:k < V.length
   ·obtain ⟨w,hwk⟩:∃ w,V[k]? = some w:=⟨_,List.getElem?_eq_getElem hlt⟩
    have hwl:=hdw w (List.mem_of_getElem? hwk)
    have c1:=v7 w [47] (by omega)
    rw [Zl] at c1
    have lt1:=w8 (B6 47) w
    have lt2:=T8 (B6 47) w
    have h1:=Dl s (w.takeWhile (B6 47))
    have h2:=Ag ((w.dropWhile (B6 47)).drop 1) (by rw [List.length_drop];omega)
    have hsn:=Jo (s:=s) hI hwk
    have hst:=Jp (s:=s) hI hwk
    have hdb:r8 s w = (decide (J3 s (w.takeWhile (B6 47)) < 0) || !(J7 ((w.dropWhile (B6 47)).drop 1)).2):=rfl
    have hdd:LK s w = ⟨J3 s (w.takeWhile (B6 47)),(J7 ((w.dropWhile (B6 47)).drop 1)).1⟩:=rfl
    rw [hdb] at hsn hst
    rw [hdd] at hsn
    clear hdb hdd
    generalize J3 s (w.takeWhile (B6 47)) = c at *
    generalize J7 ((w.dropWhile (B6 47)).drop 1) = V at *
    obtain ⟨v,b⟩:=V
    dsimp only at h2 hsn hst
    generalize w.takeWhile (B6 47) = u1 at *
    generalize (w.dropWhile (B6 47)).drop 1 = u2 at *
    generalize decide (w.dropWhile (B6 47) ≠ []) = u3 at *
    generalize Z0 s (V.take k) = A at *
    have hAl:A.length ≤ 20000:=by omega
    clear hr
    cases b with
    | true =>
      repeat' ((first | (refine B1 (x:=w) hwk (by omega) ?_) | refine B0 c1 ?_ | refine B0 h1 ?_ | refine B0 h2 ?_ |refine A1 ?_|refine S1 ?_|refine Z1 ?_|refine Z2 ?_|(refine And.intro ?_ ?_<;>intro h<;>try first|(exfalso;omega)|exact absurd rfl h)|refine Z3 ?_|refine Z4 ?_|intro el hel hbB|intro el hel|intro ex|refine Z5 ?_|(refine A8 ?_ ?_;exact ⟨by kernel_rfl,by decide⟩)|refine A7 ?_ ?_|exact A6|refine A3 ?_ ?_|exact A2|(refine A0 ?_ ?_ ?_;kernel_rfl;kernel_rfl)) <;> (try (conv=>whnf)))
      all_goals first
       | (exfalso;omega)
       | (obtain ⟨q1,q2⟩:=hst (by simp;omega);rw [q1] at hR;rw [q2,Bool.not_true,Bool.and_false] at hR;cases hR;exact D4 (A5 h0 rfl ⟨rfl,trivial⟩ ⟨rfl,⟨_,rfl⟩,rfl,⟨_,rfl⟩,trivial⟩ rfl rfl rfl))
       | (obtain ⟨q1,q2⟩:=hsn (by simp;omega);exact ⟨k + 1,⟨by omega,q2⟩,by omega,by rw [q1];exact A5 h0 rfl ⟨rfl,rfl,rfl,rfl,rfl,congrArg (fun z:Int=>some (AV.i z)) (by omega),trivial⟩ ⟨rfl,⟨_,rfl⟩,congrArg (fun z=>H4.box [.str nm, .i 1, .i f.op, .i f.col, .i f.code, .i f.lo, .i f.hi, .sl 6 (f.kids.map D5), .row 3 0 z, .i (-1),C5, .i 0, .i 0, .i 0, .i 0, .i 0,C5]) (by rw [List.length_append];rfl),⟨_,congrArg (H4.row FH 2 _) (by rw [List.map_append];rfl)⟩,trivial⟩ rfl rfl rfl⟩)
    | false =>
      repeat' ((first | (refine B1 (x:=w) hwk (by omega) ?_) | refine B0 c1 ?_ | refine B0 h1 ?_ | refine B0 h2 ?_ |refine A1 ?_|refine S1 ?_|refine Z1 ?_|refine Z2 ?_|(refine And.intro ?_ ?_<;>intro h<;>try first|(exfalso;omega)|exact absurd rfl h)|refine Z3 ?_|refine Z4 ?_|intro el hel hbB|intro el hel|intro ex|refine Z5 ?_|(refine A8 ?_ ?_;exact ⟨by kernel_rfl,by decide⟩)|refine A7 ?_ ?_|exact A6|refine A3 ?_ ?_|exact A2|(refine A0 ?_ ?_ ?_;kernel_rfl;kernel_rfl)) <;> (try (conv=>whnf)))
      all_goals first
       | (exfalso;omega)
       | (obtain ⟨q1,q2⟩:=hst (by simp);rw [q1] at hR;rw [q2,Bool.not_true,Bool.and_false] at hR;cases hR;exact D4 (A5 h0 rfl ⟨rfl,trivial⟩ ⟨rfl,⟨_,rfl⟩,rfl,⟨_,rfl⟩,trivial⟩ rfl rfl rfl))
   ·obtain rfl:k = V.length:=by omega
    rw [List.take_length] at hI hdl ⊢
    rw [hI] at hR
    generalize Z0 s V = A at *
    clear hr hI
    repeat' ((first|refine A1 ?_|refine S1 ?_|refine Z1 ?_|refine Z2 ?_|(refine And.intro ?_ ?_<;>intro h<;>try first|(exfalso;omega)|exact absurd rfl h)|refine Z3 ?_|refine Z4 ?_|intro el hel hbB|intro el hel|intro ex|refine Z5 ?_|(refine A8 ?_ ?_;exact ⟨by kernel_rfl,by decide⟩)|refine A7 ?_ ?_|exact A6|refine A3 ?_ ?_|exact A2|(refine A0 ?_ ?_ ?_;kernel_rfl;kernel_rfl)) <;> (try (conv=>whnf)))
    all_goals first
     | (exfalso;omega)
     | (rw [Bool.not_false,Bool.and_true] at hR;cases hR;exact D4 (A5 h0 rfl ⟨congrArg (fun z:Bool=>some (AV.b z)) (by rw [eq_comm,decide_eq_false_iff_not];omega),trivial⟩ ⟨rfl,⟨_,rfl⟩,rfl,⟨_,rfl⟩,trivial⟩ rfl rfl rfl))
     | (rw [Bool.not_false,Bool.and_true] at hR;cases hR;exact D4 (A5 h0 rfl ⟨congrArg (fun z:Bool=>some (AV.b z)) (by rw [decide_eq_decide];omega),trivial⟩ ⟨rfl,⟨_,rfl⟩,rfl,⟨_,rfl⟩,trivial⟩ rfl rfl rfl))
end Go.Proofs.YthkklceofokkmaaGreatDoor

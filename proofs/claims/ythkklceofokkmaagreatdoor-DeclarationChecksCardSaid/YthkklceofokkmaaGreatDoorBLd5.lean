/- Chapter 8: which questions and declarations are right: the reference. -/
import Derived.Test.YthkklceofokkmaaGreatDoorBCm1
import Derived.Test.YthkklceofokkmaaGreatDoorBF2
import Derived.Test.YthkklceofokkmaaGreatDoorBCf1
import Derived.Test.YthkklceofokkmaaGreatDoorBQw1
import Derived.Test.YthkklceofokkmaaGreatDoorBLr8
import Derived.Test.YthkklceofokkmaaGreatDoorBB9
set_option linter.unusedVariables false
set_option linter.unnecessarySimpa false
set_option linter.unusedSimpArgs false
namespace Go.Proofs.YthkklceofokkmaaGreatDoor
open Go Go.Av
attribute [local irreducible] E5 B7 E6 E7 DQ E8 F0 St.le B3 B5
set_option maxRecDepth 100000
theorem UN (c:A4):B3 Tryz.prog 43 [L8 c] (.b (decide (U7 c))):=by
 have h:=UM c
 refine F7 Tryz.func43 6 fun hrd E h0=>?_
 clear hrd
 repeat' ((first | refine B0 h ?_ |refine A1 ?_|refine S1 ?_|refine Z1 ?_|refine Z2 ?_|(refine And.intro ?_ ?_<;>intro h<;>try first|(exfalso;omega)|exact absurd rfl h)|refine Z3 ?_|refine Z4 ?_|intro el hel hbB|intro el hel|intro ex|refine Z5 ?_|(refine A8 ?_ ?_;exact ⟨by kernel_rfl,by decide⟩)|refine A7 ?_ ?_|exact A6|refine A3 ?_ ?_|exact A2|(refine A0 ?_ ?_ ?_;kernel_rfl;kernel_rfl)) <;> (try (conv=>whnf)))
 all_goals first
  | exact A9 rfl rfl
def MX (s:B2) (q:D3):Int:=if q.kind = 1 then (if ¬ i6 s q.dims = 0 then i6 s q.dims else if ¬ q.mea = -1 ∧ ¬ S8 s q.mea = 3 then 7 else 0) else if ¬ S8 s q.mea = 3 then 7 else if q.kind = 2 then m4 s q.mea q.trms else if (C6 s q.mea).low < 0 then 2 else H0 s q.evt
theorem fD {s:B2} {c:Int} {k:Int} (h:S8 s c = k) (hk:¬ k = 0):∃ x,0 ≤ c ∧ s.cols[c.toNat]? = some x:=by
 unfold S8 at h
 split at h
 ·exact ⟨_,by omega,List.getElem?_eq_getElem (by omega)⟩
 ·omega
set_option maxHeartbeats 8000000 in
theorem RT (s:B2) (q:D3):B3 Tryz.prog 42 [sA s,W7 q] (.i (MX s q)):=by
 have h1:=Jw s q.mea 3
 have h2:=UL s q.dims
 have h3:=RS s q.mea q.trms
 have h4:=EX s q.evt
 rw [HZ _ _ _ (by decide)] at h1
 unfold MX
 generalize i6 s q.dims = n1 at *
 generalize m4 s q.mea q.trms = n2 at *
 generalize H0 s q.evt = n3 at *
 by_cases hk:S8 s q.mea = 3
 ·obtain ⟨x,hx0,hx⟩:=fD hk (by decide)
  rw [E0 hx]
  rw [decide_eq_true hk] at h1
  refine F7 Tryz.func42 53 fun hrd E h0=>?_
  clear hrd
  repeat' ((first | (refine B1 (x:=x) hx (by omega) ?_) | refine B0 h1 ?_ | refine B0 h2 ?_ | refine B0 h3 ?_ | refine B0 h4 ?_ | (refine J2 ?_ ?_;kernel_rfl) |refine A1 ?_|refine S1 ?_|refine Z1 ?_|refine Z2 ?_|(refine And.intro ?_ ?_<;>intro h<;>try first|(exfalso;omega)|exact absurd rfl h)|refine Z3 ?_|refine Z4 ?_|intro el hel hbB|intro el hel|intro ex|refine Z5 ?_|(refine A8 ?_ ?_;exact ⟨by kernel_rfl,by decide⟩)|refine A7 ?_ ?_|exact A6|refine A3 ?_ ?_|exact A2|(refine A0 ?_ ?_ ?_;kernel_rfl;kernel_rfl)) <;> (try (conv=>whnf)))
  all_goals first
   | (exfalso;omega)
   | exact A9 rfl (congrArg AV.i (by rw [if_pos (by omega),if_pos (by omega)]))
   | exact A9 rfl (congrArg AV.i (by rw [if_pos (by omega),if_neg (by omega),if_neg (by omega)]))
   | exact A9 rfl (congrArg AV.i (by rw [if_neg (by omega),if_neg (by omega),if_pos (by omega)]))
   | exact A9 rfl (congrArg AV.i (by rw [if_neg (by omega),if_neg (by omega),if_neg (by omega),if_pos (by omega)]))
   | exact A9 rfl (congrArg AV.i (by rw [if_neg (by omega),if_neg (by omega),if_neg (by omega),if_neg (by omega)]))
 ·rw [decide_eq_false hk] at h1
  generalize S8 s q.mea = n4 at *
  refine F7 Tryz.func42 53 fun hrd E h0=>?_
  clear hrd
  repeat' ((first | refine B0 h1 ?_ | refine B0 h2 ?_ | (refine J2 ?_ ?_;kernel_rfl) |refine A1 ?_|refine S1 ?_|refine Z1 ?_|refine Z2 ?_|(refine And.intro ?_ ?_<;>intro h<;>try first|(exfalso;omega)|exact absurd rfl h)|refine Z3 ?_|refine Z4 ?_|intro el hel hbB|intro el hel|intro ex|refine Z5 ?_|(refine A8 ?_ ?_;exact ⟨by kernel_rfl,by decide⟩)|refine A7 ?_ ?_|exact A6|refine A3 ?_ ?_|exact A2|(refine A0 ?_ ?_ ?_;kernel_rfl;kernel_rfl)) <;> (try (conv=>whnf)))
  all_goals first
   | (exfalso;omega)
   | exact A9 rfl (congrArg AV.i (by rw [if_pos (by omega),if_pos (by omega)]))
   | exact A9 rfl (congrArg AV.i (by rw [if_pos (by omega),if_neg (by omega),if_pos (by omega)]))
   | exact A9 rfl (congrArg AV.i (by rw [if_pos (by omega),if_neg (by omega),if_neg (by omega)]))
   | exact A9 rfl (congrArg AV.i (by rw [if_neg (by omega),if_pos (by omega)]))
def ZJ (s:B2) (q:D3):Int:=if ¬ C8 s = 0 then C8 s else if C9 q.name = false then 3 else if q.kind < 1 ∨ 3 < q.kind then 4 else if ¬ H0 s q.flt = 0 then H0 s q.flt else if ¬ MX s q = 0 then MX s q else if ¬ q.kind = 1 ∧ 0 < q.dims.length ∨ ¬ q.kind = 2 ∧ 0 < q.trms.length ∨ ¬ q.kind = 3 ∧ ¬ U7 q.evt then 11 else 0
theorem cG (s:B2) (q:D3):ZJ s q = W8 s q:=by
 unfold ZJ W8
 by_cases a1:¬ C8 s = 0
 ·rw [if_pos a1,if_pos a1]
 rw [if_neg a1,if_neg a1]
 by_cases a2:C9 q.name = false
 ·rw [if_pos a2,if_pos a2]
 rw [if_neg a2,if_neg a2]
 by_cases a3:q.kind < 1 ∨ 3 < q.kind
 ·rw [if_pos a3,if_pos a3]
 rw [if_neg a3,if_neg a3]
 by_cases a4:¬ H0 s q.flt = 0
 ·rw [if_pos a4,if_pos a4]
 rw [if_neg a4,if_neg a4]
 unfold MX
 by_cases k1:q.kind = 1
 ·rw [if_pos k1,if_pos k1]
  unfold Ha
  by_cases b1:¬ i6 s q.dims = 0
  ·rw [if_pos b1,if_pos b1,if_pos b1]
  rw [if_neg b1,if_neg b1]
  by_cases b2:¬ q.mea = -1 ∧ ¬ S8 s q.mea = 3
  ·rw [if_pos b2,if_pos b2,if_pos (by decide)]
  rw [if_neg b2,if_neg b2,if_neg (by decide)]
  split <;> split <;> first | rfl | (exfalso;omega)
 ·rw [if_neg k1,if_neg k1]
  by_cases b2:¬ S8 s q.mea = 3
  ·unfold GX Hb
   rw [if_pos b2,if_pos (by decide),if_pos b2,if_pos b2]
   split <;> rfl
  rw [if_neg b2]
  by_cases k2:q.kind = 2
  ·rw [if_pos k2,if_pos k2]
   unfold GX
   rw [if_neg b2]
   by_cases b1:¬ m4 s q.mea q.trms = 0
   ·rw [if_pos b1,if_pos b1]
   rw [if_neg b1,if_neg b1]
   split <;> split <;> first | rfl | (exfalso;omega)
  ·rw [if_neg k2,if_neg k2]
   unfold Hb
   rw [if_neg b2]
   by_cases b3:(C6 s q.mea).low < 0
   ·rw [if_pos b3,if_pos b3,if_pos (by decide)]
   rw [if_neg b3,if_neg b3]
   by_cases b1:¬ H0 s q.evt = 0
   ·rw [if_pos b1,if_pos b1]
   rw [if_neg b1,if_neg b1]
   split <;> split <;> first | rfl | (exfalso;omega)
set_option maxHeartbeats 16000000 in
theorem FM (s:B2) (q:D3):B3 Tryz.prog 16 [sA s,W7 q] (.i (W8 s q)):=by
 rw [← cG]
 have h1:=Af s
 have h2:=Al q.name
 have h3:=EX s q.flt
 have h4:=RT s q
 have h5:=UN q.evt
 unfold ZJ
 generalize C8 s = n1 at *
 generalize C9 q.name = b at *
 generalize H0 s q.flt = n2 at *
 generalize MX s q = n3 at *
 by_cases hem:U7 q.evt
 ·rw [decide_eq_true hem] at h5
  refine F7 Tryz.func16 69 fun hrd E h0=>?_
  clear hrd
  repeat' ((first | refine B0 h1 ?_ | refine B0 h2 ?_ | refine B0 h3 ?_ | refine B0 h4 ?_ | refine B0 h5 ?_ |refine A1 ?_|refine S1 ?_|refine Z1 ?_|refine Z2 ?_|(refine And.intro ?_ ?_<;>intro h<;>try first|(exfalso;omega)|exact absurd rfl h)|refine Z3 ?_|refine Z4 ?_|intro el hel hbB|intro el hel|intro ex|refine Z5 ?_|(refine A8 ?_ ?_;exact ⟨by kernel_rfl,by decide⟩)|refine A7 ?_ ?_|exact A6|refine A3 ?_ ?_|exact A2|(refine A0 ?_ ?_ ?_;kernel_rfl;kernel_rfl)) <;> (try (conv=>whnf)))
  all_goals first
   | (exfalso;omega)
   | exact A9 rfl (congrArg AV.i (by rw [if_pos (by omega)]))
   | exact A9 rfl (congrArg AV.i (by rw [if_neg (by omega),if_pos (by assumption)]))
   | exact A9 rfl (congrArg AV.i (by rw [if_neg (by omega),if_neg (fun h=>Bool.false_ne_true (h.symm.trans (show b = true by assumption))),if_pos (by omega)]))
   | exact A9 rfl (congrArg AV.i (by rw [if_neg (by omega),if_neg (fun h=>Bool.false_ne_true (h.symm.trans (show b = true by assumption))),if_neg (by omega),if_pos (by omega)]))
   | exact A9 rfl (congrArg AV.i (by rw [if_neg (by omega),if_neg (fun h=>Bool.false_ne_true (h.symm.trans (show b = true by assumption))),if_neg (by omega),if_neg (by omega),if_pos (by omega)]))
   | exact A9 rfl (congrArg AV.i (by rw [if_neg (by omega),if_neg (fun h=>Bool.false_ne_true (h.symm.trans (show b = true by assumption))),if_neg (by omega),if_neg (by omega),if_neg (by omega),if_pos (by omega)]))
   | exact A9 rfl (congrArg AV.i (by rw [if_neg (by omega),if_neg (fun h=>Bool.false_ne_true (h.symm.trans (show b = true by assumption))),if_neg (by omega),if_neg (by omega),if_neg (by omega),if_neg (by omega)]))
 ·rw [decide_eq_false hem] at h5
  have hem2:¬ q.evt.op = 0 ∨ ¬ q.evt.col = 0 ∨ ¬ q.evt.code = 0 ∨ ¬ q.evt.lo = 0 ∨ ¬ q.evt.hi = 0 ∨ ¬ q.evt.kids.length = 0:=by omega
  refine F7 Tryz.func16 69 fun hrd E h0=>?_
  clear hrd
  repeat' ((first | refine B0 h1 ?_ | refine B0 h2 ?_ | refine B0 h3 ?_ | refine B0 h4 ?_ | refine B0 h5 ?_ |refine A1 ?_|refine S1 ?_|refine Z1 ?_|refine Z2 ?_|(refine And.intro ?_ ?_<;>intro h<;>try first|(exfalso;omega)|exact absurd rfl h)|refine Z3 ?_|refine Z4 ?_|intro el hel hbB|intro el hel|intro ex|refine Z5 ?_|(refine A8 ?_ ?_;exact ⟨by kernel_rfl,by decide⟩)|refine A7 ?_ ?_|exact A6|refine A3 ?_ ?_|exact A2|(refine A0 ?_ ?_ ?_;kernel_rfl;kernel_rfl)) <;> (try (conv=>whnf)))
  all_goals first
   | (exfalso;clear hem hem2;omega)
   | exact A9 rfl (congrArg AV.i (by rw [if_pos (by clear hem hem2;omega)]))
   | exact A9 rfl (congrArg AV.i (by rw [if_neg (by clear hem hem2;omega),if_pos (by assumption)]))
   | exact A9 rfl (congrArg AV.i (by rw [if_neg (by clear hem hem2;omega),if_neg (fun h=>Bool.false_ne_true (h.symm.trans (show b = true by assumption))),if_pos (by clear hem hem2;omega)]))
   | exact A9 rfl (congrArg AV.i (by rw [if_neg (by clear hem hem2;omega),if_neg (fun h=>Bool.false_ne_true (h.symm.trans (show b = true by assumption))),if_neg (by clear hem hem2;omega),if_pos (by clear hem hem2;omega)]))
   | exact A9 rfl (congrArg AV.i (by rw [if_neg (by clear hem hem2;omega),if_neg (fun h=>Bool.false_ne_true (h.symm.trans (show b = true by assumption))),if_neg (by clear hem hem2;omega),if_neg (by clear hem hem2;omega),if_pos (by clear hem hem2;omega)]))
   | exact A9 rfl (congrArg AV.i (by rw [if_neg (by clear hem hem2;omega),if_neg (fun h=>Bool.false_ne_true (h.symm.trans (show b = true by assumption))),if_neg (by clear hem hem2;omega),if_neg (by clear hem hem2;omega),if_neg (by clear hem hem2;omega),if_pos (.inl ⟨by clear hem hem2;omega,by clear hem hem2;omega⟩)]))
   | exact A9 rfl (congrArg AV.i (by rw [if_neg (by clear hem hem2;omega),if_neg (fun h=>Bool.false_ne_true (h.symm.trans (show b = true by assumption))),if_neg (by clear hem hem2;omega),if_neg (by clear hem hem2;omega),if_neg (by clear hem hem2;omega),if_pos (.inr (.inl ⟨by clear hem hem2;omega,by clear hem hem2;omega⟩))]))
   | exact A9 rfl (congrArg AV.i (by rw [if_neg (by clear hem hem2;omega),if_neg (fun h=>Bool.false_ne_true (h.symm.trans (show b = true by assumption))),if_neg (by clear hem hem2;omega),if_neg (by clear hem hem2;omega),if_neg (by clear hem hem2;omega),if_pos (.inr (.inr ⟨by clear hem hem2;omega,hem⟩))]))
   | exact A9 rfl (congrArg AV.i (by rw [if_neg (by clear hem hem2;omega),if_neg (fun h=>Bool.false_ne_true (h.symm.trans (show b = true by assumption))),if_neg (by clear hem hem2;omega),if_neg (by clear hem hem2;omega),if_neg (by clear hem hem2;omega),if_neg (by omega)]))
set_option maxHeartbeats 16000000 in
theorem Qe (s:B2) (d:F4):B3 Tryz.prog 14 [sA s,M5 d] (.i (U8 s d)):=by
 have h1:=Af s
 have h2:=Al d.prj
 have h3:=Al d.src
 have h4:=EX s d.coh
 have hq:=fun x=>FM s x
 unfold U8
 generalize C8 s = n1 at *
 generalize C9 d.prj = b1 at *
 generalize C9 d.src = b2 at *
 generalize H0 s d.coh = n2 at *
 refine F7 Tryz.func14 110 fun hrd E h0=>?_
 have hlen:d.qs.length ≤ 9223372036854775807:=by
  have:=((hrd (M5 d) (by simp)).agg (.sl 17 (d.qs.map C4)) (by simp)).sl
  simpa using this
 clear hrd
 repeat' ((first | refine B0 h1 ?_ | refine B0 h2 ?_ | refine B0 h3 ?_ | refine B0 h4 ?_ |refine A1 ?_|refine S1 ?_|refine Z1 ?_|refine Z2 ?_|(refine And.intro ?_ ?_<;>intro h<;>try first|(exfalso;omega)|exact absurd rfl h)|refine Z3 ?_|refine Z4 ?_|intro el hel hbB|intro el hel|intro ex|refine Z5 ?_|(refine A8 ?_ ?_;exact ⟨by kernel_rfl,by decide⟩)|refine A7 ?_ ?_|exact A6|refine A3 ?_ ?_|exact A2|(refine A0 ?_ ?_ ?_;kernel_rfl;kernel_rfl)) <;> (try (conv=>whnf)))
 all_goals first
  | (exfalso;omega)
  | exact A9 rfl (congrArg AV.i (by rw [if_pos (by omega)]))
  | exact A9 rfl (congrArg AV.i (by rw [if_neg (by omega),if_pos (.inl (by assumption))]))
  | exact A9 rfl (congrArg AV.i (by rw [if_neg (by omega),if_pos (.inr (by assumption))]))
  | exact A9 rfl (congrArg AV.i (by rw [if_neg (by omega),if_neg (fun h=>h.elim (fun h=>Bool.false_ne_true (h.symm.trans (show b1 = true by assumption))) (fun h=>Bool.false_ne_true (h.symm.trans (show b2 = true by assumption)))),if_pos (by omega)]))
  | exact A9 rfl (congrArg AV.i (by rw [if_neg (by omega),if_neg (fun h=>h.elim (fun h=>Bool.false_ne_true (h.symm.trans (show b1 = true by assumption))) (fun h=>Bool.false_ne_true (h.symm.trans (show b2 = true by assumption)))),if_neg (by omega),if_pos (by omega)]))
  | exact A9 rfl (congrArg AV.i (by rw [if_neg (by omega),if_neg (fun h=>h.elim (fun h=>Bool.false_ne_true (h.symm.trans (show b1 = true by assumption))) (fun h=>Bool.false_ne_true (h.symm.trans (show b2 = true by assumption)))),if_neg (by omega),if_neg (by omega),if_pos (by omega)]))
  | skip
 rw [if_neg (by omega),if_neg (fun h=>h.elim (fun h=>Bool.false_ne_true (h.symm.trans (show b1 = true by assumption))) (fun h=>Bool.false_ne_true (h.symm.trans (show b2 = true by assumption)))),if_neg (by omega),if_neg (by omega),if_neg (by omega)]
 clear h1 h2 h3 h4
 refine D8 (ι:=Nat) (fun k=>⟨[(2, .ref 0 0),(3, .ref 1 0),(8, .i k)],2,[(0,some (.box (sL s))),(1,some (.box (k0 d)))]⟩) (fun k=>L0 (CV s d.qs) d.qs k) (fun k=>d.qs.length - k) 0 (L0.zero _ _)
  (A5 h0 rfl ⟨rfl,rfl,rfl,trivial⟩ ⟨rfl,rfl,trivial⟩ rfl rfl rfl) (fun k hI=>?_)
 have hkl:=hI.1
 by_cases hlt:k < d.qs.length
 ·obtain ⟨x,hx⟩:∃ x,d.qs[k]? = some x:=⟨_,List.getElem?_eq_getElem hlt⟩
  have h1:=hq x
  have hno:∀ e:Int,CV s d.qs k x = e → ¬ e = 0 → e = I2 (CV s d.qs) 0 d.qs:=fun e h3 h4=>by rw [← h3];exact hI.hit hx (by rw [h3];exact h4)
  have hye:CV s d.qs k x = 0 → L0 (CV s d.qs) d.qs (k + 1):=fun h=>hI.step hx h
  unfold CV at hno hye
  generalize W8 s x = n at *
  repeat' ((first | (refine B1 (x:=x) hx (by omega) ?_) | refine B0 h1 ?_ | (refine J2 ?_ ?_;kernel_rfl) |refine A1 ?_|refine S1 ?_|refine Z1 ?_|refine Z2 ?_|(refine And.intro ?_ ?_<;>intro h<;>try first|(exfalso;omega)|exact absurd rfl h)|refine Z3 ?_|refine Z4 ?_|intro el hel hbB|intro el hel|intro ex|refine Z5 ?_|(refine A8 ?_ ?_;exact ⟨by kernel_rfl,by decide⟩)|refine A7 ?_ ?_|exact A6|refine A3 ?_ ?_|exact A2|(refine A0 ?_ ?_ ?_;kernel_rfl;kernel_rfl)) <;> (try (conv=>whnf)))
  all_goals first
   | exact A9 rfl (congrArg AV.i (hno n (by rw [if_pos (by omega)]) (by omega)))
   | (exfalso;omega)
   | skip
  refine D8 (ι:=Nat) (fun j=>⟨[(2, .ref 0 0),(3, .ref 1 0),(8, .i k),(10, .i j)],2,[(0,some (.box (sL s))),(1,some (.box (k0 d)))]⟩) (fun j=>j ≤ k ∧ X9 (fun y=>decide (y.name = x.name)) (d.qs.take k) j) (fun j=>k - j) 0 ⟨Nat.zero_le _,X9.zero _ _⟩
   (A5 h0 rfl ⟨rfl,rfl,rfl,rfl,trivial⟩ ⟨rfl,rfl,trivial⟩ rfl rfl rfl) (fun j hJ=>?_)
  obtain ⟨hj,hJ⟩:=hJ
  have htl:(d.qs.take k).length = k:=by rw [List.length_take];omega
  repeat' ((first | (refine B1 (x:=x) hx (by omega) ?_) | (refine J2 ?_ ?_;kernel_rfl) |refine A1 ?_|refine S1 ?_|refine Z1 ?_|refine Z2 ?_|(refine And.intro ?_ ?_<;>intro h<;>try first|(exfalso;omega)|exact absurd rfl h)|refine Z3 ?_|refine Z4 ?_|intro el hel hbB|intro el hel|intro ex|refine Z5 ?_|(refine A8 ?_ ?_;exact ⟨by kernel_rfl,by decide⟩)|refine A7 ?_ ?_|exact A6|refine A3 ?_ ?_|exact A2|(refine A0 ?_ ?_ ?_;kernel_rfl;kernel_rfl)) <;> (try (conv=>whnf)))
  all_goals first
   | exact A9 rfl (congrArg AV.i (hno 10 (by rw [if_neg (by omega),if_pos (hJ.hit (x:=el) (by rw [List.getElem?_take,if_pos (by omega)];exact hel) (decide_eq_true (by assumption))).symm]) (by omega)))
   | exact ⟨j + 1,⟨by omega,hJ.step (x:=el) (by rw [List.getElem?_take,if_pos (by omega)];exact hel) (decide_eq_false (by assumption))⟩,by omega,A5 h0 rfl ⟨rfl,rfl,rfl,rfl,trivial⟩ ⟨rfl,rfl,trivial⟩ rfl rfl rfl⟩
   | exact ⟨k + 1,hye (by rw [if_neg (by omega),if_neg (by rw [← hJ.done (by rw [htl];assumption)];exact Bool.false_ne_true)]),by omega,A5 h0 rfl ⟨rfl,rfl,rfl,trivial⟩ ⟨rfl,rfl,trivial⟩ rfl rfl rfl⟩
 ·repeat' ((first|refine A1 ?_|refine S1 ?_|refine Z1 ?_|refine Z2 ?_|(refine And.intro ?_ ?_<;>intro h<;>try first|(exfalso;omega)|exact absurd rfl h)|refine Z3 ?_|refine Z4 ?_|intro el hel hbB|intro el hel|intro ex|refine Z5 ?_|(refine A8 ?_ ?_;exact ⟨by kernel_rfl,by decide⟩)|refine A7 ?_ ?_|exact A6|refine A3 ?_ ?_|exact A2|(refine A0 ?_ ?_ ?_;kernel_rfl;kernel_rfl)) <;> (try (conv=>whnf)))
  all_goals first
   | (exfalso;omega)
   | exact A9 rfl (congrArg AV.i (hI.done (by omega)).symm)
end Go.Proofs.YthkklceofokkmaaGreatDoor
namespace Go.Proofs.YthkklceofokkmaaGreatDoor
open Go Go.Av
attribute [local irreducible] E5 B7 E6 E7 DQ E8 F0 St.le B3 B5
set_option maxRecDepth 100000
abbrev gF:List UInt8:=[113,49]
set_option maxHeartbeats 16000000 in
theorem WQ (l:List UInt8) (hl:l.length ≤ maxLen) (raw:F4) (hraw:raw.qs.length ≤ maxLen) (q:D3) (by':Int) (nm:List UInt8):B3 Tryz.prog 3 [.sl 1 (l.map S6),M5 raw,W7 q, .i by', .str nm] (.b true):=by
 unfold maxLen at hl hraw
 have ha:=FJ
 have hL:(l.take 400).length ≤ 400:=List.length_take_le _ _
 have hnew:=Jh l (by omega)
 have hsch:=IA (l.take 400) 0 hL
 have hd:=Gc (l.take 400) 0
 generalize FF (l.take 400) 0 = s0 at *
 obtain ⟨s,a0⟩:=s0
 dsimp only at hsch hd
 generalize l.take 400 = t at *
 obtain ⟨D1,b1,l1,h1⟩:=NY t s hd hL a0 by' nm
 have hmod:=PE by' 9 (by omega)
 have hml:=Fa (k:=by') (n:=9) (by omega)
 generalize GR by' 9 = m at *
 obtain ⟨D2,b2,l2,h2⟩:=NY t s hd hL b1 (m - 2) gF
 obtain ⟨V,hV,hVl,hVq⟩:∃ V:List F4,V = [D1,D2,raw] ∧ V.length = 3 ∧ ∀ D ∈ V,D.qs.length ≤ 9223372036854775807:=⟨_,rfl,rfl,fun D hD=>by
  simp only [List.mem_cons,List.not_mem_nil,or_false] at hD
  rcases hD with rfl | rfl | rfl <;> omega⟩
 refine F7 Tryz.func3 89 fun hrd E h0=>?_
 clear hrd
 repeat' ((first | (refine E3 5 ?_;refine H6 (id:=5) (σ':=⟨[(3, .i by'),(4, .str nm),(6, .iptr (k0 raw)),(7, .iptr (C4 q)),(11, .ref 2 0),(12, .iptr (sL s))],4,[(2,I4 t a0)]⟩) (A5 h0 rfl ⟨rfl,rfl,rfl,rfl,rfl,rfl,trivial⟩ ⟨rfl,trivial⟩ rfl rfl rfl) ?_;refine F3 (id:=5) ⟨[(7, .iptr (C4 q)),(12, .iptr (sL s)),(50, .sl 12 (V.map k0)),(51, .i 3),(52, .i 0)],0,[]⟩ ?_ ?_) | refine B0 ha ?_ | refine B0 hmod ?_ | refine y8 [] [] hnew rfl rfl rfl rfl rfl trivial rfl rfl rfl rfl rfl ?_ |refine A1 ?_|refine S1 ?_|refine Z1 ?_|refine Z2 ?_|(refine And.intro ?_ ?_<;>intro h<;>try first|(exfalso;omega)|exact absurd rfl h)|refine Z3 ?_|refine Z4 ?_|intro el hel hbB|intro el hel|intro ex|refine Z5 ?_|(refine A8 ?_ ?_;exact ⟨by kernel_rfl,by decide⟩)|refine A7 ?_ ?_|exact A6|refine A3 ?_ ?_|exact A2|(refine A0 ?_ ?_ ?_;kernel_rfl;kernel_rfl) | refine nc [2] [0] hsch rfl rfl rfl ⟨rfl,trivial⟩ ?_ | refine nc [2] [0] h1 rfl rfl rfl ⟨rfl,trivial⟩ ?_ | refine nc [2] [0] h2 rfl rfl rfl ⟨rfl,trivial⟩ ?_) <;> (try (conv=>whnf)))
 all_goals first
  | exact A9 rfl rfl
  | exact A5 h0 rfl ⟨rfl,rfl,congrArg (fun z:List F4=>some (AV.sl 12 (z.map k0))) hV.symm,rfl,rfl,trivial⟩ trivial rfl rfl rfl
  | (exfalso;omega)
  | skip
 clear hnew hsch h1 h2 hmod hV
 refine D8 (ι:=Nat) (fun k=>⟨[(7, .iptr (C4 q)),(12, .iptr (sL s)),(50, .sl 12 (V.map k0)),(51, .i 3),(52, .i k)],0,[]⟩) (fun k=>k ≤ 3) (fun k=>3 - k) 0 (by omega) (A5 h0 rfl ⟨rfl,rfl,rfl,rfl,rfl,trivial⟩ trivial rfl rfl rfl) (fun k hI=>?_)
 by_cases hk3:k < 3
 ·obtain ⟨D,hD⟩:∃ D,V[k]? = some D:=⟨_,List.getElem?_eq_getElem (by omega)⟩
  have hDq:=hVq D (List.mem_of_getElem? hD)
  have e1:=DD s D
  have e2:=Qe s D
  generalize U8 s D = z at *
  repeat' ((first | (refine B1 (x:=D) hD (by omega) ?_) | refine B0 e1 ?_ | refine B0 e2 ?_ |refine A1 ?_|refine S1 ?_|refine Z1 ?_|refine Z2 ?_|(refine And.intro ?_ ?_<;>intro h<;>try first|(exfalso;omega)|exact absurd rfl h)|refine Z3 ?_|refine Z4 ?_|intro el hel hbB|intro el hel|intro ex|refine Z5 ?_|(refine A8 ?_ ?_;exact ⟨by kernel_rfl,by decide⟩)|refine A7 ?_ ?_|exact A6|refine A3 ?_ ?_|exact A2|(refine A0 ?_ ?_ ?_;kernel_rfl;kernel_rfl)) <;> (try (conv=>whnf)))
  all_goals first
   | (exfalso;omega)
   | skip
  clear e1 e2
  refine D8 (ι:=Nat) (fun j=>⟨[(7, .iptr (C4 q)),(12, .iptr (sL s)),(50, .sl 12 (V.map k0)),(51, .i 3),(52, .i k),(64, .sl 17 (D.qs.map C4)),(65, .i D.qs.length),(66, .i j)],0,[]⟩) (fun j=>j ≤ D.qs.length) (fun j=>D.qs.length - j) 0 (by omega) (A5 h0 rfl ⟨rfl,rfl,rfl,rfl,rfl,rfl,rfl,rfl,trivial⟩ trivial rfl rfl rfl) (fun j hJ=>?_)
  by_cases hj:j < D.qs.length
  ·obtain ⟨x,hx⟩:∃ x,D.qs[j]? = some x:=⟨_,List.getElem?_eq_getElem hj⟩
   have e3:=Gp s x
   have e4:=FM s x
   generalize W8 s x = y at *
   repeat' ((first | (refine B1 (x:=x) hx (by omega) ?_) | refine B0 e3 ?_ | refine B0 e4 ?_ |refine A1 ?_|refine S1 ?_|refine Z1 ?_|refine Z2 ?_|(refine And.intro ?_ ?_<;>intro h<;>try first|(exfalso;omega)|exact absurd rfl h)|refine Z3 ?_|refine Z4 ?_|intro el hel hbB|intro el hel|intro ex|refine Z5 ?_|(refine A8 ?_ ?_;exact ⟨by kernel_rfl,by decide⟩)|refine A7 ?_ ?_|exact A6|refine A3 ?_ ?_|exact A2|(refine A0 ?_ ?_ ?_;kernel_rfl;kernel_rfl)) <;> (try (conv=>whnf)))
   all_goals first
    | exact ⟨j + 1,by omega,by omega,A5 h0 rfl ⟨rfl,rfl,rfl,rfl,rfl,rfl,rfl,rfl,trivial⟩ trivial rfl rfl rfl⟩
    | (exfalso;omega)
  ·repeat' ((first|refine A1 ?_|refine S1 ?_|refine Z1 ?_|refine Z2 ?_|(refine And.intro ?_ ?_<;>intro h<;>try first|(exfalso;omega)|exact absurd rfl h)|refine Z3 ?_|refine Z4 ?_|intro el hel hbB|intro el hel|intro ex|refine Z5 ?_|(refine A8 ?_ ?_;exact ⟨by kernel_rfl,by decide⟩)|refine A7 ?_ ?_|exact A6|refine A3 ?_ ?_|exact A2|(refine A0 ?_ ?_ ?_;kernel_rfl;kernel_rfl)) <;> (try (conv=>whnf)))
   all_goals first
    | exact ⟨k + 1,by omega,by omega,A5 h0 rfl ⟨rfl,rfl,rfl,rfl,rfl,trivial⟩ trivial rfl rfl rfl⟩
    | (exfalso;omega)
 ·have e3:=Gp s q
  have e4:=FM s q
  generalize W8 s q = y at *
  repeat' ((first | refine B0 ha ?_ | refine B0 e3 ?_ | refine B0 e4 ?_ |refine A1 ?_|refine S1 ?_|refine Z1 ?_|refine Z2 ?_|(refine And.intro ?_ ?_<;>intro h<;>try first|(exfalso;omega)|exact absurd rfl h)|refine Z3 ?_|refine Z4 ?_|intro el hel hbB|intro el hel|intro ex|refine Z5 ?_|(refine A8 ?_ ?_;exact ⟨by kernel_rfl,by decide⟩)|refine A7 ?_ ?_|exact A6|refine A3 ?_ ?_|exact A2|(refine A0 ?_ ?_ ?_;kernel_rfl;kernel_rfl)) <;> (try (conv=>whnf)))
  all_goals first
   | exact A9 rfl rfl
   | (exfalso;omega)
theorem ZK (l:List AV) (h:Du Tryz.prog Tryz.f3.params.toList l):B3 Tryz.prog 3 l (.b true):=by
 obtain ⟨a1,r1,rfl,h1,a2,r2,rfl,h2,a3,r3,rfl,h3,a4,r4,rfl,h4,a5,r5,rfl,h5,rfl⟩:=h
 obtain ⟨l,hl,rfl⟩:=PD h1
 obtain ⟨D,hD,rfl⟩:=cF h2
 obtain ⟨q,rfl⟩:=cE h3
 obtain ⟨n,_,rfl⟩:=ZZ h4
 obtain ⟨nm,_,rfl⟩:=en h5
 exact WQ l hl D hD q n nm
end Go.Proofs.YthkklceofokkmaaGreatDoor

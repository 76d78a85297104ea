/- Chapter 8: which questions and declarations are right: the program. -/
import Derived.Test.YthkklceofokkmaaGreatDoorBCm1
set_option linter.unusedVariables false
set_option linter.unnecessarySimpa false
set_option linter.unusedSimpArgs false
namespace Go.Proofs.YthkklceofokkmaaGreatDoor
open Go Go.Av
attribute [local irreducible] E5 B7 E6 E7 DQ E8 F0 St.le B3 B5
set_option maxRecDepth 100000
set_option maxHeartbeats 4000000 in
theorem FI (s:B2) (c:Int):B3 Tryz.prog 78 [sA s, .i c] (.i (S8 s c)):=by
 unfold S8
 refine F7 Tryz.func78 20 fun hrd E h0=>?_
 clear hrd
 repeat' ((first | (refine J2 ?_ ?_;kernel_rfl) |refine A1 ?_|refine S1 ?_|refine Z1 ?_|refine Z2 ?_|(refine And.intro ?_ ?_<;>intro h<;>try first|(exfalso;omega)|exact absurd rfl h)|refine Z3 ?_|refine Z4 ?_|intro el hel hbB|intro el hel|intro ex|refine Z5 ?_|(refine A8 ?_ ?_;exact ⟨by kernel_rfl,by decide⟩)|refine A7 ?_ ?_|exact A6|refine A3 ?_ ?_|exact A2|(refine A0 ?_ ?_ ?_;kernel_rfl;kernel_rfl)) <;> (try (conv=>whnf)))
 all_goals first
  | exact A9 rfl (congrArg AV.i (by rw [if_neg (by omega)]))
  | exact A9 rfl (congrArg AV.i (by rw [if_pos (by omega),E0 hel]))
set_option maxHeartbeats 4000000 in
theorem JM (c:A4):B3 Tryz.prog 81 [L8 c] (.b (decide (U7 c))):=by
 rw [T6]
 refine F7 Tryz.func81 32 fun hrd E h0=>?_
 clear hrd
 repeat' ((first|refine A1 ?_|refine S1 ?_|refine Z1 ?_|refine Z2 ?_|(refine And.intro ?_ ?_<;>intro h<;>try first|(exfalso;omega)|exact absurd rfl h)|refine Z3 ?_|refine Z4 ?_|intro el hel hbB|intro el hel|intro ex|refine Z5 ?_|(refine A8 ?_ ?_;exact ⟨by kernel_rfl,by decide⟩)|refine A7 ?_ ?_|exact A6|refine A3 ?_ ?_|exact A2|(refine A0 ?_ ?_ ?_;kernel_rfl;kernel_rfl)) <;> (try (conv=>whnf)))
 all_goals first
  | exact A9 rfl (congrArg AV.b (by rw [decide_eq_true (by omega)]))
  | exact A9 rfl (congrArg AV.b (by rw [decide_eq_false (by omega)]))
  | exact A9 rfl (congrArg AV.b (by rw [decide_eq_decide];omega))
set_option maxHeartbeats 4000000 in
theorem Vy (x d:Pk):B3 Tryz.prog 80 [Zc x, .iptr (P8 d)] (.b (decide (x.col = d.col))):=by
 refine F7 Tryz.func80 9 fun hrd E h0=>?_
 clear hrd
 repeat' ((first | (refine J2 ?_ ?_;kernel_rfl) |refine A1 ?_|refine S1 ?_|refine Z1 ?_|refine Z2 ?_|(refine And.intro ?_ ?_<;>intro h<;>try first|(exfalso;omega)|exact absurd rfl h)|refine Z3 ?_|refine Z4 ?_|intro el hel hbB|intro el hel|intro ex|refine Z5 ?_|(refine A8 ?_ ?_;exact ⟨by kernel_rfl,by decide⟩)|refine A7 ?_ ?_|exact A6|refine A3 ?_ ?_|exact A2|(refine A0 ?_ ?_ ?_;kernel_rfl;kernel_rfl)) <;> (try (conv=>whnf)))
 all_goals first
  | exact A9 rfl rfl
theorem bK (l:List Pk) (k:Nat) (d:Pk):B3 Tryz.prog 79 [.sl 2 ((l.map P8).take k), .fn 80 [.iptr (P8 d)]] (.b ((l.take k).any fun x=>decide (x.col = d.col))):=by
 have h:=dD (l.take k) 80 [.iptr (P8 d)] (fun x=>decide (x.col = d.col)) (fun x _=>Vy x d)
 rw [List.map_take] at h
 exact h
theorem fw {s:B2} {c:Int} {k:Int} (h:S8 s c = k) (hk:¬ k = 0):∃ x,0 ≤ c ∧ s.cols[c.toNat]? = some x:=by
 unfold S8 at h
 split at h
 ·exact ⟨_,by omega,List.getElem?_eq_getElem (by omega)⟩
 ·omega
theorem bL {s:B2} {c:Int} {x:G9} (h0:0 ≤ c) (hx:s.cols[c.toNat]? = some x):S8 s c = x.kind:=by
 have:=(List.getElem?_eq_some_iff.1 hx).1
 unfold S8
 rw [if_pos (by omega),E0 hx]
def Tx (s:B2) (q:D3):Int:=if ¬ q.mea = -1 ∧ ¬ S8 s q.mea = 3 then 7 else if 0 < q.trms.length ∨ ¬ U7 q.evt then 11 else 0
theorem bM (s:B2) (q:D3):Ha s q = if q.dims.length < 1 ∨ 3 < q.dims.length then 1 else if ¬ I2 (s8 s q.dims) 0 q.dims = 0 then I2 (s8 s q.dims) 0 q.dims else Tx s q:=by
 unfold Ha i6 Tx
 by_cases h:q.dims.length < 1 ∨ 3 < q.dims.length
 ·simp only [if_pos h];rfl
 ·simp only [if_neg h]
set_option maxHeartbeats 16000000 in
theorem RN (s:B2) (q:D3):B3 Tryz.prog 39 [sA s,W7 q] (.i (Ha s q)):=by
 have hp:=fun d=>TV s d
 have hk:=fun c=>FI s c
 have hkm:=hk q.mea
 have hany:=fun k d=>bK q.dims k d
 have he:=JM q.evt
 have hb1:decide (U7 q.evt) = true → U7 q.evt:=of_decide_eq_true
 have hb2:decide (U7 q.evt) = false → ¬ U7 q.evt:=of_decide_eq_false
 rw [bM]
 refine F7 Tryz.func39 64 fun hrd E h0=>?_
 have hlen:q.dims.length ≤ 9223372036854775807:=by
  have:=((hrd (W7 q) (by simp)).agg (.sl 2 (q.dims.map P8)) (by simp)).sl
  simpa using this
 clear hrd
 repeat' ((first|refine A1 ?_|refine S1 ?_|refine Z1 ?_|refine Z2 ?_|(refine And.intro ?_ ?_<;>intro h<;>try first|(exfalso;omega)|exact absurd rfl h)|refine Z3 ?_|refine Z4 ?_|intro el hel hbB|intro el hel|intro ex|refine Z5 ?_|(refine A8 ?_ ?_;exact ⟨by kernel_rfl,by decide⟩)|refine A7 ?_ ?_|exact A6|refine A3 ?_ ?_|exact A2|(refine A0 ?_ ?_ ?_;kernel_rfl;kernel_rfl)) <;> (try (conv=>whnf)))
 all_goals first
  | (rw [if_pos (by omega)];exact A9 rfl rfl)
  | skip
 rw [if_neg (by omega)]
 refine D8 (ι:=Nat) (fun k=>⟨[(2, .ref 0 0),(3, .ref 1 0),(19, .sl 2 (q.dims.map P8)),(20, .i q.dims.length),(21, .i k)],2,[(0,some (.box (sL s))),(1,some (.box (C4 q)))]⟩) (fun k=>L0 (s8 s q.dims) q.dims k) (fun k=>q.dims.length - k) 0 (L0.zero _ _)
  (A5 h0 rfl ⟨rfl,rfl,rfl,rfl,rfl,trivial⟩ ⟨rfl,rfl,trivial⟩ rfl rfl rfl) (fun k hI=>?_)
 have hkl:=hI.1
 by_cases hlt:k < q.dims.length
 ·obtain ⟨d,hd⟩:∃ d,q.dims[k]? = some d:=⟨_,List.getElem?_eq_getElem hlt⟩
  have h1:=hp d
  have h2:=hany k d
  have h3:=hk d.col
  have hno:∀ e:Int,s8 s q.dims k d = e → ¬ e = 0 → e = (if ¬ I2 (s8 s q.dims) 0 q.dims = 0 then I2 (s8 s q.dims) 0 q.dims else Tx s q):=fun e h3 h4=>by
   have:=hI.hit hd (by rw [h3];exact h4)
   rw [h3] at this
   rw [← this,if_pos h4]
  have hye:s8 s q.dims k d = 0 → L0 (s8 s q.dims) q.dims (k + 1):=fun h=>hI.step hd h
  clear he hkm hb1 hb2
  unfold s8 at hno hye
  by_cases hpe:W4 s d = 0
  ·obtain ⟨c,hc0,hc⟩:=Xe hpe
   rw [E0 hc] at hno hye
   rw [bL hc0 hc] at h3
   rw [hpe] at h1
   generalize ((q.dims.take k).any fun x=>decide (x.col = d.col)) = u at *
   repeat' ((first | (refine B1 (x:=d) hd (by omega) ?_) | refine B0 h1 ?_ | refine B0 h3 ?_ | refine Y8 2 ?_ | refine B0 h2 ?_ |refine A1 ?_|refine S1 ?_|refine Z1 ?_|refine Z2 ?_|(refine And.intro ?_ ?_<;>intro h<;>try first|(exfalso;omega)|exact absurd rfl h)|refine Z3 ?_|refine Z4 ?_|intro el hel hbB|intro el hel|intro ex|refine Z5 ?_|(refine A8 ?_ ?_;exact ⟨by kernel_rfl,by decide⟩)|refine A7 ?_ ?_|exact A6|refine A3 ?_ ?_|exact A2|(refine A0 ?_ ?_ ?_;kernel_rfl;kernel_rfl)) <;> (try (conv=>whnf)))
   all_goals first
    | exact A9 rfl (congrArg AV.i (hno 7 (by rw [if_neg (by omega),if_pos (by assumption)]) (by omega)))
    | exact A9 rfl (congrArg AV.i (hno 10 (by rw [if_neg (by omega),if_neg (by assumption),if_pos (by assumption)]) (by omega)))
    | exact ⟨k + 1,hye (by rw [if_neg (by omega),if_neg (by assumption),if_neg (by simp [*])]),by omega,A5 h0 rfl ⟨rfl,rfl,rfl,rfl,rfl,trivial⟩ ⟨rfl,rfl,trivial⟩ rfl rfl rfl⟩
    | (exfalso;omega)
  ·repeat' ((first | (refine B1 (x:=d) hd (by omega) ?_) | refine B0 h1 ?_ |refine A1 ?_|refine S1 ?_|refine Z1 ?_|refine Z2 ?_|(refine And.intro ?_ ?_<;>intro h<;>try first|(exfalso;omega)|exact absurd rfl h)|refine Z3 ?_|refine Z4 ?_|intro el hel hbB|intro el hel|intro ex|refine Z5 ?_|(refine A8 ?_ ?_;exact ⟨by kernel_rfl,by decide⟩)|refine A7 ?_ ?_|exact A6|refine A3 ?_ ?_|exact A2|(refine A0 ?_ ?_ ?_;kernel_rfl;kernel_rfl)) <;> (try (conv=>whnf)))
   all_goals first
    | exact A9 rfl (congrArg AV.i (hno (W4 s d) (by rw [if_pos (by omega)]) hpe))
    | (exfalso;omega)
 ·rw [if_neg (show ¬ ¬ I2 (s8 s q.dims) 0 q.dims = 0 from fun h=>h (hI.done (by omega)))]
  unfold Tx
  generalize decide (U7 q.evt) = b at *
  clear hp hk hany
  repeat' ((first | refine B0 hkm ?_ | refine B0 he ?_ |refine A1 ?_|refine S1 ?_|refine Z1 ?_|refine Z2 ?_|(refine And.intro ?_ ?_<;>intro h<;>try first|(exfalso;omega)|exact absurd rfl h)|refine Z3 ?_|refine Z4 ?_|intro el hel hbB|intro el hel|intro ex|refine Z5 ?_|(refine A8 ?_ ?_;exact ⟨by kernel_rfl,by decide⟩)|refine A7 ?_ ?_|exact A6|refine A3 ?_ ?_|exact A2|(refine A0 ?_ ?_ ?_;kernel_rfl;kernel_rfl)) <;> (try (conv=>whnf)))
  all_goals first
   | (exfalso;omega)
   | exact A9 rfl (congrArg AV.i (by rw [if_pos (by omega)]))
   | exact A9 rfl (congrArg AV.i (by rw [if_neg (by omega),if_pos (.inl (by omega))]))
   | exact A9 rfl (congrArg AV.i (by rw [if_neg (by omega),if_pos (.inr (hb2 (by assumption)))]))
   | exact A9 rfl (congrArg AV.i (by rw [if_neg (by omega),if_neg (fun h=>h.elim (fun h=>by omega) (fun h=>h (hb1 (by assumption))))]))
def Ty (q:D3):Int:=if 0 < q.dims.length ∨ ¬ U7 q.evt then 11 else 0
theorem bN (s:B2) (q:D3):GX s q = if ¬ S8 s q.mea = 3 then 7 else if q.trms.length < 1 ∨ 3 < q.trms.length then 1 else if ¬ I2 (s9 s q.mea q.trms) 0 q.trms = 0 then I2 (s9 s q.mea q.trms) 0 q.trms else Ty q:=by
 unfold GX m4 Ty
 by_cases h:q.trms.length < 1 ∨ 3 < q.trms.length
 ·simp only [if_pos h];rfl
 ·simp only [if_neg h]
set_option maxHeartbeats 16000000 in
theorem RO (s:B2) (q:D3):B3 Tryz.prog 40 [sA s,W7 q] (.i (GX s q)):=by
 have hk:=fun c=>FI s c
 have hkm:=hk q.mea
 have hany:=fun k d=>Nh q.trms k d
 have he:=JM q.evt
 have hb1:decide (U7 q.evt) = true → U7 q.evt:=of_decide_eq_true
 have hb2:decide (U7 q.evt) = false → ¬ U7 q.evt:=of_decide_eq_false
 rw [bN]
 refine F7 Tryz.func40 59 fun hrd E h0=>?_
 have hlen:q.trms.length ≤ 9223372036854775807:=by
  have:=((hrd (W7 q) (by simp)).agg (.sl 1 (q.trms.map wA)) (by simp)).sl
  simpa using this
 clear hrd
 repeat' ((first | refine B0 hkm ?_ |refine A1 ?_|refine S1 ?_|refine Z1 ?_|refine Z2 ?_|(refine And.intro ?_ ?_<;>intro h<;>try first|(exfalso;omega)|exact absurd rfl h)|refine Z3 ?_|refine Z4 ?_|intro el hel hbB|intro el hel|intro ex|refine Z5 ?_|(refine A8 ?_ ?_;exact ⟨by kernel_rfl,by decide⟩)|refine A7 ?_ ?_|exact A6|refine A3 ?_ ?_|exact A2|(refine A0 ?_ ?_ ?_;kernel_rfl;kernel_rfl)) <;> (try (conv=>whnf)))
 all_goals first
  | (rw [if_pos (by omega)];exact A9 rfl rfl)
  | (rw [if_neg (by omega),if_pos (by omega)];exact A9 rfl rfl)
  | skip
 rw [if_neg (by omega),if_neg (by omega)]
 refine D8 (ι:=Nat) (fun k=>⟨[(2, .ref 0 0),(3, .ref 1 0),(25, .sl 1 (q.trms.map wA)),(26, .i q.trms.length),(27, .i k)],2,[(0,some (.box (sL s))),(1,some (.box (C4 q)))]⟩) (fun k=>L0 (s9 s q.mea q.trms) q.trms k) (fun k=>q.trms.length - k) 0 (L0.zero _ _)
  (A5 h0 rfl ⟨rfl,rfl,rfl,rfl,rfl,trivial⟩ ⟨rfl,rfl,trivial⟩ rfl rfl rfl) (fun k hI=>?_)
 have hkl:=hI.1
 by_cases hlt:k < q.trms.length
 ·obtain ⟨c,hc⟩:∃ d,q.trms[k]? = some d:=⟨_,List.getElem?_eq_getElem hlt⟩
  have h2:=hany k c
  have h3:=hk c
  have hno:∀ e:Int,s9 s q.mea q.trms k c = e → ¬ e = 0 → e = (if ¬ I2 (s9 s q.mea q.trms) 0 q.trms = 0 then I2 (s9 s q.mea q.trms) 0 q.trms else Ty q):=fun e h3 h4=>by
   have:=hI.hit hc (by rw [h3];exact h4)
   rw [h3] at this
   rw [← this,if_pos h4]
  have hye:s9 s q.mea q.trms k c = 0 → L0 (s9 s q.mea q.trms) q.trms (k + 1):=fun h=>hI.step hc h
  clear he hkm hb1 hb2
  unfold s9 at hno hye
  rw [HZ _ _ _ (by decide)] at hno hye
  generalize S8 s c = n at *
  generalize ((q.trms.take k).any fun x=>decide (x = c)) = u at *
  repeat' ((first | (refine B1 (x:=c) hc (by omega) ?_) | refine B0 h3 ?_ | refine B0 h2 ?_ |refine A1 ?_|refine S1 ?_|refine Z1 ?_|refine Z2 ?_|(refine And.intro ?_ ?_<;>intro h<;>try first|(exfalso;omega)|exact absurd rfl h)|refine Z3 ?_|refine Z4 ?_|intro el hel hbB|intro el hel|intro ex|refine Z5 ?_|(refine A8 ?_ ?_;exact ⟨by kernel_rfl,by decide⟩)|refine A7 ?_ ?_|exact A6|refine A3 ?_ ?_|exact A2|(refine A0 ?_ ?_ ?_;kernel_rfl;kernel_rfl)) <;> (try (conv=>whnf)))
  all_goals first
   | exact A9 rfl (congrArg AV.i (hno 7 (by rw [if_pos (decide_eq_false (by omega))]) (by omega)))
   | exact A9 rfl (congrArg AV.i (hno 10 (by rw [if_neg (by rw [decide_eq_true (by omega)];simp),if_pos (.inl (by omega))]) (by omega)))
   | exact A9 rfl (congrArg AV.i (hno 10 (by rw [if_neg (by rw [decide_eq_true (by omega)];simp),if_pos (.inr (by assumption))]) (by omega)))
   | (refine ⟨k + 1,hye ?_,by omega,A5 h0 rfl ⟨rfl,rfl,rfl,rfl,rfl,trivial⟩ ⟨rfl,rfl,trivial⟩ rfl rfl rfl⟩;rw [if_neg (by rw [decide_eq_true (by omega)];simp),if_neg (fun h=>h.elim (fun h=>by omega) (fun h=>Bool.false_ne_true ((show u = false by assumption).symm.trans h)))])
   | (exfalso;omega)
 ·rw [if_neg (show ¬ ¬ I2 (s9 s q.mea q.trms) 0 q.trms = 0 from fun h=>h (hI.done (by omega)))]
  unfold Ty
  generalize decide (U7 q.evt) = b at *
  clear hk hany
  repeat' ((first | refine B0 he ?_ |refine A1 ?_|refine S1 ?_|refine Z1 ?_|refine Z2 ?_|(refine And.intro ?_ ?_<;>intro h<;>try first|(exfalso;omega)|exact absurd rfl h)|refine Z3 ?_|refine Z4 ?_|intro el hel hbB|intro el hel|intro ex|refine Z5 ?_|(refine A8 ?_ ?_;exact ⟨by kernel_rfl,by decide⟩)|refine A7 ?_ ?_|exact A6|refine A3 ?_ ?_|exact A2|(refine A0 ?_ ?_ ?_;kernel_rfl;kernel_rfl)) <;> (try (conv=>whnf)))
  all_goals first
   | (exfalso;omega)
   | exact A9 rfl (congrArg AV.i (by rw [if_pos (.inl (by omega))]))
   | exact A9 rfl (congrArg AV.i (by rw [if_pos (.inr (hb2 (by assumption)))]))
   | exact A9 rfl (congrArg AV.i (by rw [if_neg (fun h=>h.elim (fun h=>by omega) (fun h=>h (hb1 (by assumption))))]))
set_option maxHeartbeats 8000000 in
theorem RP (s:B2) (q:D3):B3 Tryz.prog 41 [sA s,W7 q] (.i (Hb s q)):=by
 have hkm:=FI s q.mea
 have hc:=BD s q.evt
 unfold Hb
 by_cases h3:S8 s q.mea = 3
 ·obtain ⟨x,hx0,hx⟩:=fw h3 (by decide)
  rw [E0 hx,if_neg (by omega)]
  rw [h3] at hkm
  generalize H0 s q.evt = n at *
  refine F7 Tryz.func41 38 fun hrd E h0=>?_
  clear hrd
  repeat' ((first | (refine B1 (x:=x) hx (by omega) ?_) | refine B0 hkm ?_ | refine B0 hc ?_ | (refine J2 ?_ ?_;kernel_rfl) |refine A1 ?_|refine S1 ?_|refine Z1 ?_|refine Z2 ?_|(refine And.intro ?_ ?_<;>intro h<;>try first|(exfalso;omega)|exact absurd rfl h)|refine Z3 ?_|refine Z4 ?_|intro el hel hbB|intro el hel|intro ex|refine Z5 ?_|(refine A8 ?_ ?_;exact ⟨by kernel_rfl,by decide⟩)|refine A7 ?_ ?_|exact A6|refine A3 ?_ ?_|exact A2|(refine A0 ?_ ?_ ?_;kernel_rfl;kernel_rfl)) <;> (try (conv=>whnf)))
  all_goals first
   | (exfalso;omega)
   | exact A9 rfl (congrArg AV.i (by rw [if_pos (by omega)]))
   | exact A9 rfl (congrArg AV.i (by rw [if_neg (by omega),if_pos (by omega)]))
   | exact A9 rfl (congrArg AV.i (by rw [if_neg (by omega),if_neg (by omega),if_pos (by omega)]))
   | exact A9 rfl (congrArg AV.i (by rw [if_neg (by omega),if_neg (by omega),if_neg (by omega)]))
 ·rw [if_pos h3]
  generalize S8 s q.mea = n at *
  clear hc
  refine F7 Tryz.func41 38 fun hrd E h0=>?_
  clear hrd
  repeat' ((first | refine B0 hkm ?_ |refine A1 ?_|refine S1 ?_|refine Z1 ?_|refine Z2 ?_|(refine And.intro ?_ ?_<;>intro h<;>try first|(exfalso;omega)|exact absurd rfl h)|refine Z3 ?_|refine Z4 ?_|intro el hel hbB|intro el hel|intro ex|refine Z5 ?_|(refine A8 ?_ ?_;exact ⟨by kernel_rfl,by decide⟩)|refine A7 ?_ ?_|exact A6|refine A3 ?_ ?_|exact A2|(refine A0 ?_ ?_ ?_;kernel_rfl;kernel_rfl)) <;> (try (conv=>whnf)))
  all_goals first
   | (exfalso;omega)
   | exact A9 rfl rfl
set_option maxHeartbeats 8000000 in
theorem Gp (s:B2) (q:D3):B3 Tryz.prog 15 [sA s,W7 q] (.i (W8 s q)):=by
 have h1:=AB s
 have h2:=Bi q.name
 have h3:=BD s q.flt
 have h4:=RN s q
 have h5:=RO s q
 have h6:=RP s q
 unfold W8
 generalize C8 s = n1 at *
 generalize C9 q.name = b at *
 generalize H0 s q.flt = n2 at *
 generalize Ha s q = n3 at *
 generalize GX s q = n4 at *
 generalize Hb s q = n5 at *
 refine F7 Tryz.func15 49 fun hrd E h0=>?_
 clear hrd
 repeat' ((first | refine B0 h1 ?_ | refine B0 h2 ?_ | refine B0 h3 ?_ | refine B0 h4 ?_ | refine B0 h5 ?_ | refine B0 h6 ?_ |refine A1 ?_|refine S1 ?_|refine Z1 ?_|refine Z2 ?_|(refine And.intro ?_ ?_<;>intro h<;>try first|(exfalso;omega)|exact absurd rfl h)|refine Z3 ?_|refine Z4 ?_|intro el hel hbB|intro el hel|intro ex|refine Z5 ?_|(refine A8 ?_ ?_;exact ⟨by kernel_rfl,by decide⟩)|refine A7 ?_ ?_|exact A6|refine A3 ?_ ?_|exact A2|(refine A0 ?_ ?_ ?_;kernel_rfl;kernel_rfl)) <;> (try (conv=>whnf)))
 all_goals first
  | (exfalso;omega)
  | exact A9 rfl (congrArg AV.i (by rw [if_pos (by omega)]))
  | exact A9 rfl (congrArg AV.i (by rw [if_neg (by omega),if_pos (by assumption)]))
  | exact A9 rfl (congrArg AV.i (by rw [if_neg (by omega),if_neg (fun h=>Bool.false_ne_true (h.symm.trans (show b = true by assumption))),if_pos (by omega)]))
  | exact A9 rfl (congrArg AV.i (by rw [if_neg (by omega),if_neg (fun h=>Bool.false_ne_true (h.symm.trans (show b = true by assumption))),if_neg (by omega),if_pos (by omega)]))
  | exact A9 rfl (congrArg AV.i (by rw [if_neg (by omega),if_neg (fun h=>Bool.false_ne_true (h.symm.trans (show b = true by assumption))),if_neg (by omega),if_neg (by omega),if_pos (by omega)]))
  | exact A9 rfl (congrArg AV.i (by rw [if_neg (by omega),if_neg (fun h=>Bool.false_ne_true (h.symm.trans (show b = true by assumption))),if_neg (by omega),if_neg (by omega),if_neg (by omega),if_pos (by omega)]))
  | exact A9 rfl (congrArg AV.i (by rw [if_neg (by omega),if_neg (fun h=>Bool.false_ne_true (h.symm.trans (show b = true by assumption))),if_neg (by omega),if_neg (by omega),if_neg (by omega),if_neg (by omega)]))
set_option maxHeartbeats 2000000 in
theorem bO (l:List (D3)) (f:Nat) (caps:List AV) (p:(D3) → Bool) (hf:∀ x ∈ l,B3 Tryz.prog f ((fun x=>.agg (C4 x)) x :: caps) (.b (p x))):B3 Tryz.prog 71 [.sl 17 (l.map C4), .fn f caps] (.i (K2 p l 0)):=by
 refine F7 Tryz.func71 19 fun hrd E h0=>?_
 have hlen:l.length ≤ 9223372036854775807:=by have:=(hrd (.sl 17 (l.map C4)) (by simp)).sl;simpa using this
 repeat' ((first|refine A1 ?_|refine S1 ?_|refine Z1 ?_|refine Z2 ?_|(refine And.intro ?_ ?_<;>intro h<;>try first|(exfalso;omega)|exact absurd rfl h)|refine Z3 ?_|refine Z4 ?_|intro el hel hbB|intro el hel|intro ex|refine Z5 ?_|(refine A8 ?_ ?_;exact ⟨by kernel_rfl,by decide⟩)|refine A7 ?_ ?_|exact A6|refine A3 ?_ ?_|exact A2|(refine A0 ?_ ?_ ?_;kernel_rfl;kernel_rfl)) <;> (try (conv=>whnf)))
 refine D8 (ι:=Nat) (fun k=>⟨[(0, .sl 17 (l.map C4)),(1, .fn f caps),(7, .i l.length),(8, .i k)],0,[]⟩) (fun k=>k ≤ l.length ∧ K2 p l 0 = K2 p (l.drop k) k) (fun k=>l.length - k) 0 ⟨Nat.zero_le _,rfl⟩ (A5 h0 rfl ⟨rfl,rfl,rfl,rfl,trivial⟩ trivial rfl rfl rfl) (fun k hI=>?_)
 obtain ⟨hk,hI⟩:=hI
 repeat' ((first | refine B0 (hf _ (List.mem_of_getElem? hel)) ?_ |refine A1 ?_|refine S1 ?_|refine Z1 ?_|refine Z2 ?_|(refine And.intro ?_ ?_<;>intro h<;>try first|(exfalso;omega)|exact absurd rfl h)|refine Z3 ?_|refine Z4 ?_|intro el hel hbB|intro el hel|intro ex|refine Z5 ?_|(refine A8 ?_ ?_;exact ⟨by kernel_rfl,by decide⟩)|refine A7 ?_ ?_|exact A6|refine A3 ?_ ?_|exact A2|(refine A0 ?_ ?_ ?_;kernel_rfl;kernel_rfl)) <;> (try (conv=>whnf)))
 all_goals first
  | exact ⟨k + 1,⟨by omega,by rw [hI,M9 hel,K2,if_neg (by simp [h])];rfl⟩,by omega,A5 h0 rfl ⟨rfl,rfl,rfl,rfl,trivial⟩ trivial rfl rfl rfl⟩
  | exact A9 rfl (congrArg AV.i (by rw [hI,M9 hel,K2,if_pos (by simp [h])]))
  | exact A9 rfl (congrArg AV.i (by rw [hI,show k = l.length by omega,List.drop_length];rfl))
set_option maxHeartbeats 2000000 in
theorem bP (l:List (D3)) (f:Nat) (caps:List AV) (p:(D3) → Bool) (hf:∀ x ∈ l,B3 Tryz.prog f ((fun x=>.agg (C4 x)) x :: caps) (.b (p x))):B3 Tryz.prog 34 [.sl 17 (l.map C4), .fn f caps] (.b (l.any p)):=by
 refine F7 Tryz.func34 9 fun hrd E h0=>?_
 have hidx:=bO l f caps p hf
 repeat' ((first | refine B0 hidx ?_ |refine A1 ?_|refine S1 ?_|refine Z1 ?_|refine Z2 ?_|(refine And.intro ?_ ?_<;>intro h<;>try first|(exfalso;omega)|exact absurd rfl h)|refine Z3 ?_|refine Z4 ?_|intro el hel hbB|intro el hel|intro ex|refine Z5 ?_|(refine A8 ?_ ?_;exact ⟨by kernel_rfl,by decide⟩)|refine A7 ?_ ?_|exact A6|refine A3 ?_ ?_|exact A2|(refine A0 ?_ ?_ ?_;kernel_rfl;kernel_rfl)) <;> (try (conv=>whnf)))
 all_goals first
  | exact A9 rfl (congrArg AV.b (Ch p l 0 (by omega)))
set_option maxHeartbeats 4000000 in
theorem Tz (x q:D3):B3 Tryz.prog 35 [W7 x, .iptr (C4 q)] (.b (decide (x.name = q.name))):=by
 refine F7 Tryz.func35 9 fun hrd E h0=>?_
 clear hrd
 repeat' ((first | (refine J2 ?_ ?_;kernel_rfl) |refine A1 ?_|refine S1 ?_|refine Z1 ?_|refine Z2 ?_|(refine And.intro ?_ ?_<;>intro h<;>try first|(exfalso;omega)|exact absurd rfl h)|refine Z3 ?_|refine Z4 ?_|intro el hel hbB|intro el hel|intro ex|refine Z5 ?_|(refine A8 ?_ ?_;exact ⟨by kernel_rfl,by decide⟩)|refine A7 ?_ ?_|exact A6|refine A3 ?_ ?_|exact A2|(refine A0 ?_ ?_ ?_;kernel_rfl;kernel_rfl)) <;> (try (conv=>whnf)))
 all_goals first
  | exact A9 rfl rfl
theorem YV (l:List D3) (k:Nat) (d:D3):B3 Tryz.prog 34 [.sl 17 ((l.map C4).take k), .fn 35 [.iptr (C4 d)]] (.b ((l.take k).any fun x=>decide (x.name = d.name))):=by
 have h:=bP (l.take k) 35 [.iptr (C4 d)] (fun x=>decide (x.name = d.name)) (fun x _=>Tz x d)
 rw [List.map_take] at h
 exact h
set_option maxHeartbeats 16000000 in
theorem DD (s:B2) (d:F4):B3 Tryz.prog 13 [sA s,M5 d] (.i (U8 s d)):=by
 have h1:=AB s
 have h2:=Bi d.prj
 have h3:=Bi d.src
 have h4:=BD s d.coh
 have hq:=fun x=>Gp s x
 have hany:=fun k x=>YV d.qs k x
 unfold U8
 generalize C8 s = n1 at *
 generalize C9 d.prj = b1 at *
 generalize C9 d.src = b2 at *
 generalize H0 s d.coh = n2 at *
 refine F7 Tryz.func13 98 fun hrd E h0=>?_
 have hlen:d.qs.length ≤ 9223372036854775807:=by
  have:=((hrd (M5 d) (by simp)).agg (.sl 17 (d.qs.map C4)) (by simp)).sl
  simpa using this
 clear hrd
 repeat' ((first | refine B0 h1 ?_ | refine B0 h2 ?_ | refine B0 h3 ?_ | refine B0 h4 ?_ |refine A1 ?_|refine S1 ?_|refine Z1 ?_|refine Z2 ?_|(refine And.intro ?_ ?_<;>intro h<;>try first|(exfalso;omega)|exact absurd rfl h)|refine Z3 ?_|refine Z4 ?_|intro el hel hbB|intro el hel|intro ex|refine Z5 ?_|(refine A8 ?_ ?_;exact ⟨by kernel_rfl,by decide⟩)|refine A7 ?_ ?_|exact A6|refine A3 ?_ ?_|exact A2|(refine A0 ?_ ?_ ?_;kernel_rfl;kernel_rfl)) <;> (try (conv=>whnf)))
 all_goals first
  | (exfalso;omega)
  | exact A9 rfl (congrArg AV.i (by rw [if_pos (by omega)]))
  | exact A9 rfl (congrArg AV.i (by rw [if_neg (by omega),if_pos (.inl (by assumption))]))
  | exact A9 rfl (congrArg AV.i (by rw [if_neg (by omega),if_pos (.inr (by assumption))]))
  | exact A9 rfl (congrArg AV.i (by rw [if_neg (by omega),if_neg (fun h=>h.elim (fun h=>Bool.false_ne_true (h.symm.trans (show b1 = true by assumption))) (fun h=>Bool.false_ne_true (h.symm.trans (show b2 = true by assumption)))),if_pos (by omega)]))
  | exact A9 rfl (congrArg AV.i (by rw [if_neg (by omega),if_neg (fun h=>h.elim (fun h=>Bool.false_ne_true (h.symm.trans (show b1 = true by assumption))) (fun h=>Bool.false_ne_true (h.symm.trans (show b2 = true by assumption)))),if_neg (by omega),if_pos (by omega)]))
  | exact A9 rfl (congrArg AV.i (by rw [if_neg (by omega),if_neg (fun h=>h.elim (fun h=>Bool.false_ne_true (h.symm.trans (show b1 = true by assumption))) (fun h=>Bool.false_ne_true (h.symm.trans (show b2 = true by assumption)))),if_neg (by omega),if_neg (by omega),if_pos (by omega)]))
  | skip
 rw [if_neg (by omega),if_neg (fun h=>h.elim (fun h=>Bool.false_ne_true (h.symm.trans (show b1 = true by assumption))) (fun h=>Bool.false_ne_true (h.symm.trans (show b2 = true by assumption)))),if_neg (by omega),if_neg (by omega),if_neg (by omega)]
 clear h1 h2 h3 h4
 refine D8 (ι:=Nat) (fun k=>⟨[(2, .ref 0 0),(3, .ref 1 0),(78, .sl 17 (d.qs.map C4)),(79, .i d.qs.length),(80, .i k)],2,[(0,some (.box (sL s))),(1,some (.box (k0 d)))]⟩) (fun k=>L0 (CV s d.qs) d.qs k) (fun k=>d.qs.length - k) 0 (L0.zero _ _)
  (A5 h0 rfl ⟨rfl,rfl,rfl,rfl,rfl,trivial⟩ ⟨rfl,rfl,trivial⟩ rfl rfl rfl) (fun k hI=>?_)
 have hkl:=hI.1
 by_cases hlt:k < d.qs.length
 ·obtain ⟨x,hx⟩:∃ x,d.qs[k]? = some x:=⟨_,List.getElem?_eq_getElem hlt⟩
  have h1:=hq x
  have h2:=hany k x
  have hno:∀ e:Int,CV s d.qs k x = e → ¬ e = 0 → e = I2 (CV s d.qs) 0 d.qs:=fun e h3 h4=>by rw [← h3];exact hI.hit hx (by rw [h3];exact h4)
  have hye:CV s d.qs k x = 0 → L0 (CV s d.qs) d.qs (k + 1):=fun h=>hI.step hx h
  unfold CV at hno hye
  generalize W8 s x = n at *
  generalize ((d.qs.take k).any fun y=>decide (y.name = x.name)) = u at *
  repeat' ((first | (refine B1 (x:=x) hx (by omega) ?_) | refine B0 h1 ?_ | refine Y8 2 ?_ | refine B0 h2 ?_ |refine A1 ?_|refine S1 ?_|refine Z1 ?_|refine Z2 ?_|(refine And.intro ?_ ?_<;>intro h<;>try first|(exfalso;omega)|exact absurd rfl h)|refine Z3 ?_|refine Z4 ?_|intro el hel hbB|intro el hel|intro ex|refine Z5 ?_|(refine A8 ?_ ?_;exact ⟨by kernel_rfl,by decide⟩)|refine A7 ?_ ?_|exact A6|refine A3 ?_ ?_|exact A2|(refine A0 ?_ ?_ ?_;kernel_rfl;kernel_rfl)) <;> (try (conv=>whnf)))
  all_goals first
   | exact A9 rfl (congrArg AV.i (hno n (by rw [if_pos (by omega)]) (by omega)))
   | exact A9 rfl (congrArg AV.i (hno 10 (by rw [if_neg (by omega),if_pos (by assumption)]) (by omega)))
   | exact ⟨k + 1,hye (by rw [if_neg (by omega),if_neg (by simp [*])]),by omega,A5 h0 rfl ⟨rfl,rfl,rfl,rfl,rfl,trivial⟩ ⟨rfl,rfl,trivial⟩ rfl rfl rfl⟩
   | (exfalso;omega)
 ·repeat' ((first|refine A1 ?_|refine S1 ?_|refine Z1 ?_|refine Z2 ?_|(refine And.intro ?_ ?_<;>intro h<;>try first|(exfalso;omega)|exact absurd rfl h)|refine Z3 ?_|refine Z4 ?_|intro el hel hbB|intro el hel|intro ex|refine Z5 ?_|(refine A8 ?_ ?_;exact ⟨by kernel_rfl,by decide⟩)|refine A7 ?_ ?_|exact A6|refine A3 ?_ ?_|exact A2|(refine A0 ?_ ?_ ?_;kernel_rfl;kernel_rfl)) <;> (try (conv=>whnf)))
  all_goals first
   | (exfalso;omega)
   | exact A9 rfl (congrArg AV.i (hI.done (by omega)).symm)
end Go.Proofs.YthkklceofokkmaaGreatDoor

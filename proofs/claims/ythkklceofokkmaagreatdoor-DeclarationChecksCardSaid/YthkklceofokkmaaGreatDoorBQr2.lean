/- Chapter 8: the program's reader: the first four lines, columns. -/
import Derived.Test.YthkklceofokkmaaGreatDoorBQr1
import Derived.Test.YthkklceofokkmaaGreatDoorBC4
set_option linter.unusedVariables false
set_option linter.unnecessarySimpa false
set_option linter.unusedSimpArgs false
namespace Go.Proofs.YthkklceofokkmaaGreatDoor
open Go Go.Av
attribute [local irreducible] E5 B7 E6 E7 DQ E8 F0 St.le B3 B5
set_option maxRecDepth 100000
theorem Ah (c:UInt8) (t:List UInt8):0 < (E1 [c] t).length:=List.length_pos_iff.2 (MH [c] t.length t)
theorem NO {c:UInt8} (n0:Nat) (t0 w0:List UInt8) (h0:w0 ∈ K8 [c] n0 t0):w0.length ≤ t0.length:=by
 have key:∀ (n:Nat) (t:List UInt8),∀ w ∈ K8 [c] n t,w.length ≤ t.length:=fun n=>by
  induction n with
  | zero=>intro t w hw;rw [K8,List.mem_singleton] at hw;subst hw;exact Nat.le_refl _
  | succ n ih =>
    intro t w hw
    rw [K8] at hw
    cases hc:AG [c] t with
    | none=>rw [hc] at hw;dsimp only at hw;rw [List.mem_singleton] at hw;subst hw;exact Nat.le_refl _
    | some z =>
      obtain ⟨x,y⟩:=z
      rw [hc] at hw
      dsimp only at hw
      have hinv:=Gi hc
      have hlen:t.length = x.length + 1 + y.length:=by rw [hinv];simp only [List.length_append,List.length_singleton]
      rcases List.mem_cons.1 hw with rfl | hw
      ·omega
      ·have:=ih y w hw;omega
 exact key _ _ _ h0
theorem Cq {c:UInt8} {t w:List UInt8} (h:w ∈ E1 [c] t):w.length ≤ t.length:=NO _ _ _ h
set_option maxHeartbeats 8000000 in
theorem YL (s:B2) (d:F4) (t:List UInt8) (ht:t.length ≤ 20000):B5 Tryz.prog 52 2 (d8 s d) [.ref 0 0, .i 1, .str t] 2 (d8 s (L6 s d 1 t).1) (.b (L6 s d 1 t).2):=by
 have h1:=Y7 t [32] (by omega) (by simp)
 have hpos:=Ah 32 t
 unfold L6
 rw [if_pos (by decide)]
 generalize E1 [32] t = ws at *
 have g0:=K4 (ws:=ws) (i:=0) hpos
 generalize E2 ws 0 = w0 at *
 by_cases hl:ws.length = 2
 ·have g1:=K4 (ws:=ws) (i:=1) (by omega)
  have h2:=v8 (E2 ws 1)
  generalize E2 ws 1 = w1 at *
  by_cases hn:Q6 w1 = false
  ·rw [if_pos (.inr hn)]
   rw [hn] at h2
   dsimp only
   refine G3 Tryz.func52 79 fun E h0=>?_
   repeat' ((first | (refine B1 (x:=w1) g1 (by omega) ?_) | refine B0 h1 ?_ | refine B0 h2 ?_ |refine A1 ?_|refine S1 ?_|refine Z1 ?_|refine Z2 ?_|(refine And.intro ?_ ?_<;>intro h<;>try first|(exfalso;omega)|exact absurd rfl h)|refine Z3 ?_|refine Z4 ?_|intro el hel hbB|intro el hel|intro ex|refine Z5 ?_|(refine A8 ?_ ?_;exact ⟨by kernel_rfl,by decide⟩)|refine A7 ?_ ?_|exact A6|refine A3 ?_ ?_|exact A2|(refine A0 ?_ ?_ ?_;kernel_rfl;kernel_rfl)) <;> (try (conv=>whnf)))
   all_goals first
    | (exfalso;omega)
    | exact D4 (A5 h0 rfl ⟨rfl,trivial⟩ ⟨rfl,⟨_,rfl⟩,trivial⟩ rfl rfl rfl)
  ·have hn2:Q6 w1 = true:=by simpa using hn
   rw [if_neg (by rintro (h | h);(exact h hl);exact hn h),if_pos rfl]
   rw [hn2] at h2
   dsimp only
   refine G3 Tryz.func52 79 fun E h0=>?_
   repeat' ((first | (refine B1 (x:=w1) g1 (by omega) ?_) | (refine B1 (x:=w0) g0 (by omega) ?_) | refine B0 h1 ?_ | refine B0 h2 ?_ |refine A1 ?_|refine S1 ?_|refine Z1 ?_|refine Z2 ?_|(refine And.intro ?_ ?_<;>intro h<;>try first|(exfalso;omega)|exact absurd rfl h)|refine Z3 ?_|refine Z4 ?_|intro el hel hbB|intro el hel|intro ex|refine Z5 ?_|(refine A8 ?_ ?_;exact ⟨by kernel_rfl,by decide⟩)|refine A7 ?_ ?_|exact A6|refine A3 ?_ ?_|exact A2|(refine A0 ?_ ?_ ?_;kernel_rfl;kernel_rfl)) <;> (try (conv=>whnf)))
   all_goals first
    | (exfalso;omega)
    | exact D4 (A5 h0 rfl ⟨rfl,trivial⟩ ⟨rfl,⟨_,rfl⟩,trivial⟩ rfl rfl rfl)
 ·rw [if_pos (.inl hl)]
  dsimp only
  refine G3 Tryz.func52 79 fun E h0=>?_
  repeat' ((first | refine B0 h1 ?_ |refine A1 ?_|refine S1 ?_|refine Z1 ?_|refine Z2 ?_|(refine And.intro ?_ ?_<;>intro h<;>try first|(exfalso;omega)|exact absurd rfl h)|refine Z3 ?_|refine Z4 ?_|intro el hel hbB|intro el hel|intro ex|refine Z5 ?_|(refine A8 ?_ ?_;exact ⟨by kernel_rfl,by decide⟩)|refine A7 ?_ ?_|exact A6|refine A3 ?_ ?_|exact A2|(refine A0 ?_ ?_ ?_;kernel_rfl;kernel_rfl)) <;> (try (conv=>whnf)))
  all_goals first
   | (exfalso;omega)
   | exact D4 (A5 h0 rfl ⟨rfl,trivial⟩ ⟨rfl,⟨_,rfl⟩,trivial⟩ rfl rfl rfl)
set_option maxHeartbeats 8000000 in
theorem YM (s:B2) (d:F4) (t:List UInt8) (ht:t.length ≤ 20000):B5 Tryz.prog 52 2 (d8 s d) [.ref 0 0, .i 2, .str t] 2 (d8 s (L6 s d 2 t).1) (.b (L6 s d 2 t).2):=by
 have h1:=Y7 t [32] (by omega) (by simp)
 have hpos:=Ah 32 t
 unfold L6
 rw [if_pos (by decide)]
 generalize E1 [32] t = ws at *
 have g0:=K4 (ws:=ws) (i:=0) hpos
 generalize E2 ws 0 = w0 at *
 by_cases hl:ws.length = 2
 ·have g1:=K4 (ws:=ws) (i:=1) (by omega)
  have h2:=v8 (E2 ws 1)
  generalize E2 ws 1 = w1 at *
  by_cases hn:Q6 w1 = false
  ·rw [if_pos (.inr hn)]
   rw [hn] at h2
   dsimp only
   refine G3 Tryz.func52 79 fun E h0=>?_
   repeat' ((first | (refine B1 (x:=w1) g1 (by omega) ?_) | refine B0 h1 ?_ | refine B0 h2 ?_ |refine A1 ?_|refine S1 ?_|refine Z1 ?_|refine Z2 ?_|(refine And.intro ?_ ?_<;>intro h<;>try first|(exfalso;omega)|exact absurd rfl h)|refine Z3 ?_|refine Z4 ?_|intro el hel hbB|intro el hel|intro ex|refine Z5 ?_|(refine A8 ?_ ?_;exact ⟨by kernel_rfl,by decide⟩)|refine A7 ?_ ?_|exact A6|refine A3 ?_ ?_|exact A2|(refine A0 ?_ ?_ ?_;kernel_rfl;kernel_rfl)) <;> (try (conv=>whnf)))
   all_goals first
    | (exfalso;omega)
    | exact D4 (A5 h0 rfl ⟨rfl,trivial⟩ ⟨rfl,⟨_,rfl⟩,trivial⟩ rfl rfl rfl)
  ·have hn2:Q6 w1 = true:=by simpa using hn
   rw [if_neg (by rintro (h | h);(exact h hl);exact hn h),if_neg (by decide)]
   rw [hn2] at h2
   dsimp only
   refine G3 Tryz.func52 79 fun E h0=>?_
   repeat' ((first | (refine B1 (x:=w1) g1 (by omega) ?_) | (refine B1 (x:=w0) g0 (by omega) ?_) | refine B0 h1 ?_ | refine B0 h2 ?_ |refine A1 ?_|refine S1 ?_|refine Z1 ?_|refine Z2 ?_|(refine And.intro ?_ ?_<;>intro h<;>try first|(exfalso;omega)|exact absurd rfl h)|refine Z3 ?_|refine Z4 ?_|intro el hel hbB|intro el hel|intro ex|refine Z5 ?_|(refine A8 ?_ ?_;exact ⟨by kernel_rfl,by decide⟩)|refine A7 ?_ ?_|exact A6|refine A3 ?_ ?_|exact A2|(refine A0 ?_ ?_ ?_;kernel_rfl;kernel_rfl)) <;> (try (conv=>whnf)))
   all_goals first
    | (exfalso;omega)
    | exact D4 (A5 h0 rfl ⟨rfl,trivial⟩ ⟨rfl,⟨_,rfl⟩,trivial⟩ rfl rfl rfl)
 ·rw [if_pos (.inl hl)]
  dsimp only
  refine G3 Tryz.func52 79 fun E h0=>?_
  repeat' ((first | refine B0 h1 ?_ |refine A1 ?_|refine S1 ?_|refine Z1 ?_|refine Z2 ?_|(refine And.intro ?_ ?_<;>intro h<;>try first|(exfalso;omega)|exact absurd rfl h)|refine Z3 ?_|refine Z4 ?_|intro el hel hbB|intro el hel|intro ex|refine Z5 ?_|(refine A8 ?_ ?_;exact ⟨by kernel_rfl,by decide⟩)|refine A7 ?_ ?_|exact A6|refine A3 ?_ ?_|exact A2|(refine A0 ?_ ?_ ?_;kernel_rfl;kernel_rfl)) <;> (try (conv=>whnf)))
  all_goals first
   | (exfalso;omega)
   | exact D4 (A5 h0 rfl ⟨rfl,trivial⟩ ⟨rfl,⟨_,rfl⟩,trivial⟩ rfl rfl rfl)
set_option maxHeartbeats 8000000 in
theorem YN (s:B2) (d:F4) (t:List UInt8) (ht:t.length ≤ 20000):B5 Tryz.prog 52 2 (d8 s d) [.ref 0 0, .i 3, .str t] 2 (d8 s (L6 s d 3 t).1) (.b (L6 s d 3 t).2):=by
 have h1:=Y7 t [32] (by omega) (by simp)
 have h2:=Fe t BT (by omega) (by decide)
 have hcl:=U9 BT t
 unfold L6
 rw [if_neg (by decide),if_pos rfl]
 generalize E1 [32] t = ws at *
 have h3:=l9 s d (C7 BT t).1 (by omega)
 generalize C7 BT t = C at *
 obtain ⟨u,b⟩:=C
 dsimp only at h2 h3 hcl ⊢
 cases b with
 | false =>
   rw [if_pos rfl]
   dsimp only
   refine G3 Tryz.func52 79 fun E h0=>?_
   repeat' ((first | refine B0 h1 ?_ | refine B0 h2 ?_ |refine A1 ?_|refine S1 ?_|refine Z1 ?_|refine Z2 ?_|(refine And.intro ?_ ?_<;>intro h<;>try first|(exfalso;omega)|exact absurd rfl h)|refine Z3 ?_|refine Z4 ?_|intro el hel hbB|intro el hel|intro ex|refine Z5 ?_|(refine A8 ?_ ?_;exact ⟨by kernel_rfl,by decide⟩)|refine A7 ?_ ?_|exact A6|refine A3 ?_ ?_|exact A2|(refine A0 ?_ ?_ ?_;kernel_rfl;kernel_rfl)) <;> (try (conv=>whnf)))
   all_goals first
    | (exfalso;omega)
    | exact D4 (A5 h0 rfl ⟨rfl,trivial⟩ ⟨rfl,⟨_,rfl⟩,trivial⟩ rfl rfl rfl)
 | true =>
   rw [if_neg (by simp)]
   generalize V0 s u = R at *
   obtain ⟨c,e⟩:=R
   dsimp only at h3 ⊢
   refine G3 Tryz.func52 79 fun E h0=>?_
   repeat' ((first | refine B0 h1 ?_ | refine B0 h2 ?_ |refine A1 ?_|refine S1 ?_|refine Z1 ?_|refine Z2 ?_|(refine And.intro ?_ ?_<;>intro h<;>try first|(exfalso;omega)|exact absurd rfl h)|refine Z3 ?_|refine Z4 ?_|intro el hel hbB|intro el hel|intro ex|refine Z5 ?_|(refine A8 ?_ ?_;exact ⟨by kernel_rfl,by decide⟩)|refine A7 ?_ ?_|exact A6|refine A3 ?_ ?_|exact A2|(refine A0 ?_ ?_ ?_;kernel_rfl;kernel_rfl) | refine nc [0,1] [0,0] h3 rfl rfl rfl ⟨rfl,rfl,trivial⟩ ?_) <;> (try (conv=>whnf)))
   all_goals first
    | (exfalso;omega)
    | exact D4 (A5 h0 rfl ⟨rfl,trivial⟩ ⟨rfl,⟨_,rfl⟩,trivial⟩ rfl rfl rfl)
set_option maxHeartbeats 8000000 in
theorem YO (s:B2) (d:F4) (t:List UInt8) (ht:t.length ≤ 20000):B5 Tryz.prog 52 2 (d8 s d) [.ref 0 0, .i 4, .str t] 2 (d8 s (L6 s d 4 t).1) (.b (L6 s d 4 t).2):=by
 have h1:=Y7 t [32] (by omega) (by simp)
 have hpos:=Ah 32 t
 have h2:=QG s d (E1 [32] t) (fun w hw=>Nat.le_trans (Cq hw) ht)
 unfold L6
 rw [if_neg (by decide),if_neg (by decide)]
 generalize E1 [32] t = ws at *
 have g0:=K4 (ws:=ws) (i:=0) hpos
 generalize E2 ws 0 = w0 at *
 by_cases hw:w0 = Hx
 ·subst hw
  rw [if_pos rfl]
  generalize Hy d ws = R at *
  obtain ⟨d2,b⟩:=R
  dsimp only at h2 ⊢
  refine G3 Tryz.func52 79 fun E h0=>?_
  repeat' ((first | (refine B1 (x:=Hx) g0 (by omega) ?_) | refine B0 h1 ?_ |refine A1 ?_|refine S1 ?_|refine Z1 ?_|refine Z2 ?_|(refine And.intro ?_ ?_<;>intro h<;>try first|(exfalso;omega)|exact absurd rfl h)|refine Z3 ?_|refine Z4 ?_|intro el hel hbB|intro el hel|intro ex|refine Z5 ?_|(refine A8 ?_ ?_;exact ⟨by kernel_rfl,by decide⟩)|refine A7 ?_ ?_|exact A6|refine A3 ?_ ?_|exact A2|(refine A0 ?_ ?_ ?_;kernel_rfl;kernel_rfl) | refine nc [0,1] [0,0] h2 rfl rfl rfl ⟨rfl,rfl,trivial⟩ ?_) <;> (try (conv=>whnf)))
  all_goals first
   | (exfalso;omega)
   | exact D4 (A5 h0 rfl ⟨rfl,trivial⟩ ⟨rfl,⟨_,rfl⟩,trivial⟩ rfl rfl rfl)
   | contradiction
 ·rw [if_neg hw]
  dsimp only
  refine G3 Tryz.func52 79 fun E h0=>?_
  repeat' ((first | (refine B1 (x:=w0) g0 (by omega) ?_) | refine B0 h1 ?_ |refine A1 ?_|refine S1 ?_|refine Z1 ?_|refine Z2 ?_|(refine And.intro ?_ ?_<;>intro h<;>try first|(exfalso;omega)|exact absurd rfl h)|refine Z3 ?_|refine Z4 ?_|intro el hel hbB|intro el hel|intro ex|refine Z5 ?_|(refine A8 ?_ ?_;exact ⟨by kernel_rfl,by decide⟩)|refine A7 ?_ ?_|exact A6|refine A3 ?_ ?_|exact A2|(refine A0 ?_ ?_ ?_;kernel_rfl;kernel_rfl)) <;> (try (conv=>whnf)))
  all_goals first
   | (exfalso;omega)
   | contradiction
   | exact D4 (A5 h0 rfl ⟨rfl,trivial⟩ ⟨rfl,⟨_,rfl⟩,trivial⟩ rfl rfl rfl)
theorem RM (s:B2) (d:F4) (n:Nat) (hn:1 ≤ n ∧ n ≤ 4) (t:List UInt8) (ht:t.length ≤ 20000):B5 Tryz.prog 52 2 (d8 s d) [.ref 0 0, .i n, .str t] 2 (d8 s (L6 s d n t).1) (.b (L6 s d n t).2):=by
 rcases (show n = 1 ∨ n = 2 ∨ n = 3 ∨ n = 4 by omega) with rfl | rfl | rfl | rfl
 ·exact YL s d t ht
 ·exact YM s d t ht
 ·exact YN s d t ht
 ·exact YO s d t ht
theorem NP {s:B2}:∀ {l:List (List UInt8)} {k:Nat} {w:List UInt8},BX s (l.take k) = false → l[k]? = some w → ¬ J3 s w < 0 → v6 s (l.take (k + 1)) = v6 s (l.take k) ++ [J3 s w] ∧ BX s (l.take (k + 1)) = false
 | [],k,w,_,h,_=>by simp at h
 | x :: r,0,w,_,h,hw=>by
   simp at h
   subst h
   rw [List.take_succ_cons,List.take_zero,List.take_zero]
   exact ⟨by simp [v6,hw],by simp [BX,hw]⟩
 | x :: r,k + 1,w,hb,h,hw=>by
   rw [List.take_succ_cons] at hb
   unfold BX at hb
   rw [List.any_cons,Bool.or_eq_false_iff] at hb
   obtain ⟨i1,i2⟩:=NP (s:=s) (l:=r) (k:=k) (w:=w) hb.2 (by simpa using h) hw
   have hx:¬ J3 s x < 0:=of_decide_eq_false hb.1
   rw [List.take_succ_cons,List.take_succ_cons,v6,if_neg hx,v6,if_neg hx,i1]
   refine ⟨rfl,?_⟩
   unfold BX at i2 ⊢
   rw [List.any_cons,i2,decide_eq_false hx];rfl
theorem Jn {s:B2} {l:List (List UInt8)} (h:BX s l = false):(v6 s l).length = l.length:=by
 induction l with
 | nil=>rfl
 | cons x r ih =>
   unfold BX at h
   rw [List.any_cons,Bool.or_eq_false_iff] at h
   rw [v6,if_neg (of_decide_eq_false h.1),List.length_cons,List.length_cons,ih h.2]
theorem YP {s:B2} {l:List (List UInt8)} {k:Nat} {w:List UInt8} (h:l[k]? = some w) (hw:J3 s w < 0):BX s l = true:=by
 unfold BX
 rw [List.any_eq_true]
 exact ⟨w,List.mem_of_getElem? h,decide_eq_true hw⟩
set_option maxHeartbeats 8000000 in
theorem BK (s:B2) (hr:C8 s = 0) (d:F4) (ws:List (List UInt8)) (hwl:ws.length ≤ 30000):B5 Tryz.prog 135 2 (d8 s d) [.ref 0 0, .sl 1 (ws.map O1)] 2 (d8 s d) (.tup [.sl 1 ((I9 s ws).1.map wA), .b (I9 s ws).2]):=by
 generalize hC:I9 s ws = C
 obtain ⟨C1,C2⟩:=C
 dsimp only
 unfold I9 at hC
 have hf:=fun w=>Dl s w
 refine G3 Tryz.func135 33 fun E h0=>?_
 repeat' ((first|refine A1 ?_|refine S1 ?_|refine Z1 ?_|refine Z2 ?_|(refine And.intro ?_ ?_<;>intro h<;>try first|(exfalso;omega)|exact absurd rfl h)|refine Z3 ?_|refine Z4 ?_|intro el hel hbB|intro el hel|intro ex|refine Z5 ?_|(refine A8 ?_ ?_;exact ⟨by kernel_rfl,by decide⟩)|refine A7 ?_ ?_|exact A6|refine A3 ?_ ?_|exact A2|(refine A0 ?_ ?_ ?_;kernel_rfl;kernel_rfl)) <;> (try (conv=>whnf)))
 refine D8 (ι:=Nat) (fun k=>⟨[(0, .ref 0 0),(6, .row 2 0 (v6 s (ws.take k)).length),(10, .sl 1 (ws.map O1)),(11, .i ws.length),(12, .i k)],3,[(0,some (.box (CM s d))),(1,some (.row E9 17 0 (d.qs.map C4))),(2,some (.row 3 1 0 ((v6 s (ws.take k)).map wA)))]⟩) (fun k=>k ≤ ws.length ∧ BX s (ws.take k) = false) (fun k=>ws.length - k) 0 ⟨Nat.zero_le _,rfl⟩
  (B8 (EF (d:=6) (e:=3) (sz:=1) rfl) (A5 h0 rfl ⟨rfl,rfl,rfl,rfl,rfl,trivial⟩ ⟨rfl,⟨_,rfl⟩,⟨0,rfl⟩,trivial⟩ rfl rfl rfl)) (fun k hI=>?_)
 obtain ⟨hk,hI⟩:=hI
 have hcl:=Jn hI
 rw [List.length_take] at hcl
 by_cases hlt:k < ws.length
 ·obtain ⟨w,hw⟩:∃ w,ws[k]? = some w:=⟨_,List.getElem?_eq_getElem hlt⟩
  have h1:=hf w
  have hsn:=fun h=>NP (s:=s) (l:=ws) (k:=k) (w:=w) hI hw h
  have hbad:=fun h=>YP (s:=s) (l:=ws) hw h
  generalize J3 s w = c at *
  generalize v6 s (ws.take k) = A at *
  repeat' ((first | (refine B1 (x:=w) hw (by omega) ?_) | refine B0 h1 ?_ |refine A1 ?_|refine S1 ?_|refine Z1 ?_|refine Z2 ?_|(refine And.intro ?_ ?_<;>intro h<;>try first|(exfalso;omega)|exact absurd rfl h)|refine Z3 ?_|refine Z4 ?_|intro el hel hbB|intro el hel|intro ex|refine Z5 ?_|(refine A8 ?_ ?_;exact ⟨by kernel_rfl,by decide⟩)|refine A7 ?_ ?_|exact A6|refine A3 ?_ ?_|exact A2|(refine A0 ?_ ?_ ?_;kernel_rfl;kernel_rfl)) <;> (try (conv=>whnf)))
  all_goals first
   | (exfalso;omega)
   | (rw [if_pos (hbad (by omega))] at hC;cases hC;exact D0 (rvs:=[.tmp 4, .tmp 5]) (vs:=[_,_]) trivial rfl rfl (B8 (G8 4 (.sl 1 []) rfl (.nil 1)) (A5 h0 rfl ⟨rfl,rfl,trivial⟩ ⟨rfl,⟨_,rfl⟩,trivial⟩ rfl rfl rfl)) rfl)
   | (obtain ⟨q1,q2⟩:=hsn (by omega);exact ⟨k + 1,⟨by omega,q2⟩,by omega,by rw [q1];exact A5 h0 rfl ⟨rfl,congrArg (fun z:Nat=>some (AV.row 2 0 z)) (by rw [List.length_append];rfl),rfl,rfl,congrArg (fun z:Int=>some (AV.i z)) (by omega),trivial⟩ ⟨rfl,⟨_,rfl⟩,⟨_,congrArg (H4.row 3 1 _) (by rw [List.map_append];rfl)⟩,trivial⟩ rfl rfl rfl⟩)
 ·obtain rfl:k = ws.length:=by omega
  rw [List.take_length] at hI hcl ⊢
  rw [if_neg (by rw [hI];simp)] at hC
  cases hC
  rw [show decide (0 < ws.length) = decide (0 < ((v6 s ws).length:Int)) by rw [decide_eq_decide];omega]
  generalize v6 s ws = A at *
  clear hf hI
  repeat' ((first|refine A1 ?_|refine S1 ?_|refine Z1 ?_|refine Z2 ?_|(refine And.intro ?_ ?_<;>intro h<;>try first|(exfalso;omega)|exact absurd rfl h)|refine Z3 ?_|refine Z4 ?_|intro el hel hbB|intro el hel|intro ex|refine Z5 ?_|(refine A8 ?_ ?_;exact ⟨by kernel_rfl,by decide⟩)|refine A7 ?_ ?_|exact A6|refine A3 ?_ ?_|exact A2|(refine A0 ?_ ?_ ?_;kernel_rfl;kernel_rfl)) <;> (try (conv=>whnf)))
  all_goals first
   | (exfalso;omega)
   | exact D0 (rvs:=[.tmp 4, .tmp 5]) (vs:=[_,_]) trivial rfl rfl (A5 h0 rfl ⟨rfl,rfl,trivial⟩ ⟨rfl,⟨_,rfl⟩,trivial⟩ rfl rfl rfl) rfl
end Go.Proofs.YthkklceofokkmaaGreatDoor

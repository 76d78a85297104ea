/- Chapter 16: the program's reader: expressions. -/
import Derived.Test.YtjmbhlgocikfiaaGreatDoorTPg3
set_option linter.unusedVariables false
set_option linter.unnecessarySimpa false
set_option linter.unusedSimpArgs false
namespace Go.Proofs.YtjmbhlgocikfiaaGreatDoor
open Go Go.Av
attribute [local irreducible] AWp AOps AAny MAny DQ retQ retG St.le FCall GCall
set_option maxRecDepth 100000
theorem sgnO_none {t:List UInt8} (h:sgnO t = none):∀ j:Int,6 ≤ j → j ≤ 9 → takO (sgnX j) t = none:=by
 unfold sgnO at h
 intro j h1 h2
 have hj:j = 6 ∨ j = 7 ∨ j = 8 ∨ j = 9:=by omega
 split at h
 ·cases h
 split at h
 ·cases h
 split at h
 ·cases h
 split at h
 ·cases h
 rcases hj with rfl | rfl | rfl | rfl <;> assumption
theorem sgnO_some {t u:List UInt8} {o:Int} (h:sgnO t = some (o,u)):(6 ≤ o ∧ o ≤ 9) ∧ takO (sgnX o) t = some u ∧ ∀ j:Int,6 ≤ j → j < o → takO (sgnX j) t = none:=by
 unfold sgnO at h
 split at h
 ·cases h;exact ⟨⟨by omega,by omega⟩,by assumption,fun j h1 h2=>by omega⟩
 split at h
 ·cases h;refine ⟨⟨by omega,by omega⟩,by assumption,fun j h1 h2=>?_⟩
  obtain rfl:j = 6:=by omega
  assumption
 split at h
 ·cases h;refine ⟨⟨by omega,by omega⟩,by assumption,fun j h1 h2=>?_⟩
  have hj:j = 6 ∨ j = 7:=by omega
  rcases hj with rfl | rfl <;> assumption
 split at h
 ·cases h;refine ⟨⟨by omega,by omega⟩,by assumption,fun j h1 h2=>?_⟩
  have hj:j = 6 ∨ j = 7 ∨ j = 8:=by omega
  rcases hj with rfl | rfl | rfl <;> assumption
 ·cases h
theorem opsX_cases (w:List UInt8):opsX w = 0 ∨ opsX w = 3 ∨ opsX w = 4 ∨ opsX w = 5 ∨ opsX w = 10 ∨ opsX w = 11 ∨ opsX w = 12 ∨ opsX w = 13 ∨ opsX w = 14:=by
 unfold opsX
 repeat' split
 all_goals simp
theorem exprO_len {s:Sch} {n:Nat} {t u:List UInt8} {e:Xpr} (h:exprO s n t = some (e,u)):u.length ≤ t.length:=by
 rw [exprO_inv s n t e u h,List.length_append];omega
theorem nl_kids (x y:Xpr):NL (.sl 19 [xprX x,xprX y]) (.sl 19 ([x,y].map xprL)):=by
 rw [map_xpr];exact .refl _
abbrev zerX:List AV:=[.i 0, .i 0, .str [], .i 0,nilR,nilR, .i 0, .i 0, .i 0, .i 0, .i 0,nilR, .i 0, .i 0, .i 0, .i 0, .i 0,nilR,nilR]
set_option maxHeartbeats 16000000 in
theorem ppair_call (s:Sch) (n:Nat) (ih:∀ t:List UInt8,t.length < n → t.length ≤ 1000000 → ∃ z:Xpr,GCall Tryz.prog 80 1 (rdP s t) [.ref 0 0] 1 (hpO s (exprO s n t)) (tupO xprA (xprA z) (exprO s n t)))
  (t:List UInt8) (ht:t.length < n) (ht2:t.length ≤ 1000000) (Z:Option (Xpr × List UInt8)) (hZ:Z = pairO (fun v=>exprO s n v) t):∃ z:Xpr,GCall Tryz.prog 116 1 (rdP s t) [.ref 0 0] 1 (hpO s Z) (tupO xprA (xprA z) Z):=by
 unfold pairO at hZ
 (try dsimp only at hZ)
 obtain ⟨zx,r1⟩:=ih t ht ht2
 rcases hx:exprO s n t with _ | ⟨x,t1⟩
 ·rw [hx] at hZ r1;(try dsimp only at hZ);subst hZ
  dsimp only [hpO,tupO] at r1
  refine ⟨zx,?_⟩
  refine gci Tryz.func116 41 fun E h0=>?_
  repeat' ((first|refine aops_go ?_|refine S1 ?_|refine Z1 ?_|refine Z2 ?_|(refine And.intro ?_ ?_<;>intro h<;>try first|(exfalso;omega)|exact absurd rfl h)|refine Z3 ?_|refine Z4 ?_|intro el hel hbB|intro el hel|intro ex|refine Z5 ?_|(refine free_i ?_ ?_;exact ⟨by kernel_rfl,by decide⟩)|refine allI_c ?_ ?_|exact allI_n|refine allMP_c ?_ ?_|exact allMP_n|(refine many_step ?_ ?_ ?_;kernel_rfl;kernel_rfl) | refine nc [0] [0] r1 rfl rfl rfl ⟨rfl,trivial⟩ ?_) <;> (try (conv=>whnf)))
  all_goals first
   | exact retg_vs (rvs:=[.cell 2 xprT, .tmp 3]) (vs:=[_,_]) ⟨1,_,_,rfl,rfl,inferInstance,rfl,rfl,trivial⟩ rfl rfl (le_trans (le_rd 0 rfl) (le_of h0 rfl ⟨rfl,rfl,trivial⟩ ⟨rfl,trivial⟩ rfl rfl rfl)) rfl
 rw [hx] at hZ r1;(try dsimp only at hZ)
 dsimp only [hpO,tupO] at r1
 have l1:=exprO_len hx
 clear hx
 rcases hs:sgnO t1 with _ | ⟨o,t2⟩
 ·rw [hs] at hZ;(try dsimp only at hZ);subst hZ
  have hno:=sgnO_none hs
  clear hs ih
  refine ⟨x,?_⟩
  refine gci Tryz.func116 41 fun E h0=>?_
  repeat' ((first|refine aops_go ?_|refine S1 ?_|refine Z1 ?_|refine Z2 ?_|(refine And.intro ?_ ?_<;>intro h<;>try first|(exfalso;omega)|exact absurd rfl h)|refine Z3 ?_|refine Z4 ?_|intro el hel hbB|intro el hel|intro ex|refine Z5 ?_|(refine free_i ?_ ?_;exact ⟨by kernel_rfl,by decide⟩)|refine allI_c ?_ ?_|exact allI_n|refine allMP_c ?_ ?_|exact allMP_n|(refine many_step ?_ ?_ ?_;kernel_rfl;kernel_rfl) | refine nc [0] [0] r1 rfl rfl rfl ⟨rfl,trivial⟩ ?_) <;> (try (conv=>whnf)))
  refine loop_i (ι:=Nat) (fun k=>⟨[(0, .ref 0 0),(2, .ref 1 0),(4, .iptr (xprX x)),(6, .i (6 + (k:Int)))],2,[(0,rdBx s t1),(1,some (.box zerX))]⟩) (fun k=>k ≤ 4) (fun k=>4 - k) 0 (Nat.zero_le _) (le_of h0 rfl ⟨rfl,rfl,rfl,rfl,trivial⟩ ⟨rfl,rfl,trivial⟩ rfl rfl rfl) (fun k hk=>?_)
  by_cases hlt:k < 4
  ·have r2:=ptake_no (s:=s) (hno (6 + k) (by omega) (by omega)) (by omega) (by rw [sgnX_len];decide)
   have r3:=sign16_call (6 + k) (by omega)
   generalize sgnX (6 + k) = z at *
   repeat' ((first | refine call_i r3 ?_ |refine aops_go ?_|refine S1 ?_|refine Z1 ?_|refine Z2 ?_|(refine And.intro ?_ ?_<;>intro h<;>try first|(exfalso;omega)|exact absurd rfl h)|refine Z3 ?_|refine Z4 ?_|intro el hel hbB|intro el hel|intro ex|refine Z5 ?_|(refine free_i ?_ ?_;exact ⟨by kernel_rfl,by decide⟩)|refine allI_c ?_ ?_|exact allI_n|refine allMP_c ?_ ?_|exact allMP_n|(refine many_step ?_ ?_ ?_;kernel_rfl;kernel_rfl) | refine nc [0] [0] r2 rfl rfl rfl ⟨rfl,trivial⟩ ?_) <;> (try (conv=>whnf)))
   all_goals first
    | exact ⟨k + 1,by omega,by omega,le_of h0 rfl ⟨rfl,rfl,rfl,congrArg (fun z:Int=>some (AV.i z)) (by omega),trivial⟩ ⟨rfl,rfl,trivial⟩ rfl rfl rfl⟩
    | (exfalso;omega)
  ·obtain rfl:k = 4:=by omega
   repeat' ((first|refine aops_go ?_|refine S1 ?_|refine Z1 ?_|refine Z2 ?_|(refine And.intro ?_ ?_<;>intro h<;>try first|(exfalso;omega)|exact absurd rfl h)|refine Z3 ?_|refine Z4 ?_|intro el hel hbB|intro el hel|intro ex|refine Z5 ?_|(refine free_i ?_ ?_;exact ⟨by kernel_rfl,by decide⟩)|refine allI_c ?_ ?_|exact allI_n|refine allMP_c ?_ ?_|exact allMP_n|(refine many_step ?_ ?_ ?_;kernel_rfl;kernel_rfl)) <;> (try (conv=>whnf)))
   all_goals first
    | exact retg_vs (rvs:=[.cell 2 xprT, .tmp 3]) (vs:=[_,_]) ⟨1,_,_,rfl,rfl,inferInstance,rfl,rfl,trivial⟩ rfl rfl (le_trans (le_rd 0 rfl) (le_of h0 rfl ⟨rfl,rfl,trivial⟩ ⟨rfl,trivial⟩ rfl rfl rfl)) rfl
    | (exfalso;omega)
 rw [hs] at hZ;(try dsimp only at hZ)
 obtain ⟨ho,hyes,hno⟩:=sgnO_some hs
 clear hs
 have hy:=ptake_yes (s:=s) hyes (by omega) (by rw [sgnX_len];decide)
 have l2:=takO_len hyes
 rw [sgnX_len] at l2
 clear hyes
 have hsg:=sign16_call o ho
 obtain ⟨zy,r4⟩:=ih t2 (by omega) (by omega)
 clear ih
 rcases hx2:exprO s n t2 with _ | ⟨y,t3⟩
 ·rw [hx2] at hZ r4;(try dsimp only at hZ);subst hZ
  dsimp only [hpO,tupO] at r4
  refine ⟨.mk o 0 [] 0 [] [] zX zX [x,zy],?_⟩
  refine gci Tryz.func116 41 fun E h0=>?_
  repeat' ((first|refine aops_go ?_|refine S1 ?_|refine Z1 ?_|refine Z2 ?_|(refine And.intro ?_ ?_<;>intro h<;>try first|(exfalso;omega)|exact absurd rfl h)|refine Z3 ?_|refine Z4 ?_|intro el hel hbB|intro el hel|intro ex|refine Z5 ?_|(refine free_i ?_ ?_;exact ⟨by kernel_rfl,by decide⟩)|refine allI_c ?_ ?_|exact allI_n|refine allMP_c ?_ ?_|exact allMP_n|(refine many_step ?_ ?_ ?_;kernel_rfl;kernel_rfl) | refine nc [0] [0] r1 rfl rfl rfl ⟨rfl,trivial⟩ ?_) <;> (try (conv=>whnf)))
  refine loop_i (ι:=Nat) (fun k=>⟨[(0, .ref 0 0),(2, .ref 1 0),(4, .iptr (xprX x)),(6, .i (6 + (k:Int)))],2,[(0,rdBx s t1),(1,some (.box zerX))]⟩) (fun k=>6 + (k:Int) ≤ o) (fun k=>4 - k) 0 (by omega) (le_of h0 rfl ⟨rfl,rfl,rfl,rfl,trivial⟩ ⟨rfl,rfl,trivial⟩ rfl rfl rfl) (fun k hk=>?_)
  by_cases hlt:6 + (k:Int) < o
  ·have r2:=ptake_no (s:=s) (hno (6 + k) (by omega) (by omega)) (by omega) (by rw [sgnX_len];decide)
   have r3:=sign16_call (6 + k) (by omega)
   clear hy hsg r4 hno
   generalize sgnX (6 + k) = z at *
   repeat' ((first | refine call_i r3 ?_ |refine aops_go ?_|refine S1 ?_|refine Z1 ?_|refine Z2 ?_|(refine And.intro ?_ ?_<;>intro h<;>try first|(exfalso;omega)|exact absurd rfl h)|refine Z3 ?_|refine Z4 ?_|intro el hel hbB|intro el hel|intro ex|refine Z5 ?_|(refine free_i ?_ ?_;exact ⟨by kernel_rfl,by decide⟩)|refine allI_c ?_ ?_|exact allI_n|refine allMP_c ?_ ?_|exact allMP_n|(refine many_step ?_ ?_ ?_;kernel_rfl;kernel_rfl) | refine nc [0] [0] r2 rfl rfl rfl ⟨rfl,trivial⟩ ?_) <;> (try (conv=>whnf)))
   all_goals first
    | exact ⟨k + 1,by omega,by omega,le_of h0 rfl ⟨rfl,rfl,rfl,congrArg (fun z:Int=>some (AV.i z)) (by omega),trivial⟩ ⟨rfl,rfl,trivial⟩ rfl rfl rfl⟩
    | (exfalso;omega)
  have hko:6 + (k:Int) = o:=by omega
  rw [hko]
  clear hno
  generalize sgnX o = z at *
  repeat' ((first | (refine draw_id 9 ?_;refine draw_le (id:=9) (σ':=⟨[(0, .ref 0 0),(2, .ref 1 0),(4, .iptr (xprX x)),(6, .i o),(7, .iptr (xprX zy)),(8, .b false)],2,[(0,some (.box [.sl 2 (s.lists.map clL), .sl 7 (s.cols.map colL), .any])),(1,some (.box zerX))]⟩) (le_of h0 rfl ⟨rfl,rfl,rfl,rfl,rfl,rfl,trivial⟩ ⟨rfl,rfl,trivial⟩ rfl rfl rfl) ?_;refine draw_m (id:=9) ⟨[(2, .ref 1 0),(3, .b false)],2,[(0,some (.box [.sl 2 (s.lists.map clL), .sl 7 (s.cols.map colL), .any])),(1,some (.box [.i o, .i 0, .str [], .i 0,nilR,nilR, .i 0, .i 0, .i 0, .i 0, .i 0,nilR, .i 0, .i 0, .i 0, .i 0, .i 0,nilR, .sl 19 [xprX x,xprX zy]]))]⟩ ?_ ?_) | refine call_i hsg ?_ |refine aops_go ?_|refine S1 ?_|refine Z1 ?_|refine Z2 ?_|(refine And.intro ?_ ?_<;>intro h<;>try first|(exfalso;omega)|exact absurd rfl h)|refine Z3 ?_|refine Z4 ?_|intro el hel hbB|intro el hel|intro ex|refine Z5 ?_|(refine free_i ?_ ?_;exact ⟨by kernel_rfl,by decide⟩)|refine allI_c ?_ ?_|exact allI_n|refine allMP_c ?_ ?_|exact allMP_n|(refine many_step ?_ ?_ ?_;kernel_rfl;kernel_rfl) | refine nc [0] [0] hy rfl rfl rfl ⟨rfl,trivial⟩ ?_ | refine nc [0] [0] r4 rfl rfl rfl ⟨rfl,trivial⟩ ?_) <;> (try (conv=>whnf)))
  all_goals first
   | exact le_of h0 rfl ⟨rfl,rfl,trivial⟩ ⟨rfl,rfl,trivial⟩ rfl rfl rfl
   | exact retg_vs (rvs:=[.cell 2 xprT, .tmp 3]) (vs:=[_,_]) ⟨1,_,_,rfl,rfl,inferInstance,rfl,rfl,trivial⟩ rfl rfl (le_trans (le_slot 2 (xprA (.mk o 0 [] 0 [] [] zX zX [x,zy])) rfl (nl_xpr (.mk o 0 [] 0 [] [] zX zX [x,zy]) (.nil _) (.nil _) (.nil _) (.nil _) (nl_kids x zy))) (le_trans (le_rd 0 rfl) (le_of h0 rfl ⟨rfl,rfl,trivial⟩ ⟨rfl,trivial⟩ rfl rfl rfl))) rfl
   | (exfalso;omega)
 rw [hx2] at hZ r4;(try dsimp only at hZ)
 dsimp only [hpO,tupO] at r4
 have l3:=exprO_len hx2
 clear hx2
 refine ⟨.mk o 0 [] 0 [] [] zX zX [x,y],?_⟩
 rcases hc:takO [41] t3 with _ | t4
 ·rw [hc] at hZ;(try dsimp only at hZ);subst hZ
  have r5:=ptake_no (s:=s) hc (by omega) (by decide)
  refine gci Tryz.func116 41 fun E h0=>?_
  repeat' ((first|refine aops_go ?_|refine S1 ?_|refine Z1 ?_|refine Z2 ?_|(refine And.intro ?_ ?_<;>intro h<;>try first|(exfalso;omega)|exact absurd rfl h)|refine Z3 ?_|refine Z4 ?_|intro el hel hbB|intro el hel|intro ex|refine Z5 ?_|(refine free_i ?_ ?_;exact ⟨by kernel_rfl,by decide⟩)|refine allI_c ?_ ?_|exact allI_n|refine allMP_c ?_ ?_|exact allMP_n|(refine many_step ?_ ?_ ?_;kernel_rfl;kernel_rfl) | refine nc [0] [0] r1 rfl rfl rfl ⟨rfl,trivial⟩ ?_) <;> (try (conv=>whnf)))
  refine loop_i (ι:=Nat) (fun k=>⟨[(0, .ref 0 0),(2, .ref 1 0),(4, .iptr (xprX x)),(6, .i (6 + (k:Int)))],2,[(0,rdBx s t1),(1,some (.box zerX))]⟩) (fun k=>6 + (k:Int) ≤ o) (fun k=>4 - k) 0 (by omega) (le_of h0 rfl ⟨rfl,rfl,rfl,rfl,trivial⟩ ⟨rfl,rfl,trivial⟩ rfl rfl rfl) (fun k hk=>?_)
  by_cases hlt:6 + (k:Int) < o
  ·have r2:=ptake_no (s:=s) (hno (6 + k) (by omega) (by omega)) (by omega) (by rw [sgnX_len];decide)
   have r3:=sign16_call (6 + k) (by omega)
   clear hy hsg r4 hno
   generalize sgnX (6 + k) = z at *
   repeat' ((first | refine call_i r3 ?_ |refine aops_go ?_|refine S1 ?_|refine Z1 ?_|refine Z2 ?_|(refine And.intro ?_ ?_<;>intro h<;>try first|(exfalso;omega)|exact absurd rfl h)|refine Z3 ?_|refine Z4 ?_|intro el hel hbB|intro el hel|intro ex|refine Z5 ?_|(refine free_i ?_ ?_;exact ⟨by kernel_rfl,by decide⟩)|refine allI_c ?_ ?_|exact allI_n|refine allMP_c ?_ ?_|exact allMP_n|(refine many_step ?_ ?_ ?_;kernel_rfl;kernel_rfl) | refine nc [0] [0] r2 rfl rfl rfl ⟨rfl,trivial⟩ ?_) <;> (try (conv=>whnf)))
   all_goals first
    | exact ⟨k + 1,by omega,by omega,le_of h0 rfl ⟨rfl,rfl,rfl,congrArg (fun z:Int=>some (AV.i z)) (by omega),trivial⟩ ⟨rfl,rfl,trivial⟩ rfl rfl rfl⟩
    | (exfalso;omega)
  have hko:6 + (k:Int) = o:=by omega
  rw [hko]
  clear hno
  generalize sgnX o = z at *
  repeat' ((first | (refine draw_id 9 ?_;refine draw_le (id:=9) (σ':=⟨[(0, .ref 0 0),(2, .ref 1 0),(4, .iptr (xprX x)),(6, .i o),(7, .iptr (xprX y)),(8, .b true)],2,[(0,rdBx s t3),(1,some (.box zerX))]⟩) (le_of h0 rfl ⟨rfl,rfl,rfl,rfl,rfl,rfl,trivial⟩ ⟨rfl,rfl,trivial⟩ rfl rfl rfl) ?_;refine draw_m (id:=9) ⟨[(2, .ref 1 0),(3, .b false)],2,[(0,rdBx s t3),(1,some (.box [.i o, .i 0, .str [], .i 0,nilR,nilR, .i 0, .i 0, .i 0, .i 0, .i 0,nilR, .i 0, .i 0, .i 0, .i 0, .i 0,nilR, .sl 19 [xprX x,xprX y]]))]⟩ ?_ ?_) | refine call_i hsg ?_ |refine aops_go ?_|refine S1 ?_|refine Z1 ?_|refine Z2 ?_|(refine And.intro ?_ ?_<;>intro h<;>try first|(exfalso;omega)|exact absurd rfl h)|refine Z3 ?_|refine Z4 ?_|intro el hel hbB|intro el hel|intro ex|refine Z5 ?_|(refine free_i ?_ ?_;exact ⟨by kernel_rfl,by decide⟩)|refine allI_c ?_ ?_|exact allI_n|refine allMP_c ?_ ?_|exact allMP_n|(refine many_step ?_ ?_ ?_;kernel_rfl;kernel_rfl) | refine nc [0] [0] hy rfl rfl rfl ⟨rfl,trivial⟩ ?_ | refine nc [0] [0] r4 rfl rfl rfl ⟨rfl,trivial⟩ ?_ | refine nc [0] [0] r5 rfl rfl rfl ⟨rfl,trivial⟩ ?_) <;> (try (conv=>whnf)))
  all_goals first
   | exact le_of h0 rfl ⟨rfl,rfl,trivial⟩ ⟨rfl,rfl,trivial⟩ rfl rfl rfl
   | exact retg_vs (rvs:=[.cell 2 xprT, .tmp 3]) (vs:=[_,_]) ⟨1,_,_,rfl,rfl,inferInstance,rfl,rfl,trivial⟩ rfl rfl (le_trans (le_slot 2 (xprA (.mk o 0 [] 0 [] [] zX zX [x,y])) rfl (nl_xpr (.mk o 0 [] 0 [] [] zX zX [x,y]) (.nil _) (.nil _) (.nil _) (.nil _) (nl_kids x y))) (le_trans (le_rd 0 rfl) (le_of h0 rfl ⟨rfl,rfl,trivial⟩ ⟨rfl,trivial⟩ rfl rfl rfl))) rfl
   | (exfalso;omega)
 ·rw [hc] at hZ;(try dsimp only at hZ);subst hZ
  have r5:=ptake_yes (s:=s) hc (by omega) (by decide)
  refine gci Tryz.func116 41 fun E h0=>?_
  repeat' ((first|refine aops_go ?_|refine S1 ?_|refine Z1 ?_|refine Z2 ?_|(refine And.intro ?_ ?_<;>intro h<;>try first|(exfalso;omega)|exact absurd rfl h)|refine Z3 ?_|refine Z4 ?_|intro el hel hbB|intro el hel|intro ex|refine Z5 ?_|(refine free_i ?_ ?_;exact ⟨by kernel_rfl,by decide⟩)|refine allI_c ?_ ?_|exact allI_n|refine allMP_c ?_ ?_|exact allMP_n|(refine many_step ?_ ?_ ?_;kernel_rfl;kernel_rfl) | refine nc [0] [0] r1 rfl rfl rfl ⟨rfl,trivial⟩ ?_) <;> (try (conv=>whnf)))
  refine loop_i (ι:=Nat) (fun k=>⟨[(0, .ref 0 0),(2, .ref 1 0),(4, .iptr (xprX x)),(6, .i (6 + (k:Int)))],2,[(0,rdBx s t1),(1,some (.box zerX))]⟩) (fun k=>6 + (k:Int) ≤ o) (fun k=>4 - k) 0 (by omega) (le_of h0 rfl ⟨rfl,rfl,rfl,rfl,trivial⟩ ⟨rfl,rfl,trivial⟩ rfl rfl rfl) (fun k hk=>?_)
  by_cases hlt:6 + (k:Int) < o
  ·have r2:=ptake_no (s:=s) (hno (6 + k) (by omega) (by omega)) (by omega) (by rw [sgnX_len];decide)
   have r3:=sign16_call (6 + k) (by omega)
   clear hy hsg r4 hno
   generalize sgnX (6 + k) = z at *
   repeat' ((first | refine call_i r3 ?_ |refine aops_go ?_|refine S1 ?_|refine Z1 ?_|refine Z2 ?_|(refine And.intro ?_ ?_<;>intro h<;>try first|(exfalso;omega)|exact absurd rfl h)|refine Z3 ?_|refine Z4 ?_|intro el hel hbB|intro el hel|intro ex|refine Z5 ?_|(refine free_i ?_ ?_;exact ⟨by kernel_rfl,by decide⟩)|refine allI_c ?_ ?_|exact allI_n|refine allMP_c ?_ ?_|exact allMP_n|(refine many_step ?_ ?_ ?_;kernel_rfl;kernel_rfl) | refine nc [0] [0] r2 rfl rfl rfl ⟨rfl,trivial⟩ ?_) <;> (try (conv=>whnf)))
   all_goals first
    | exact ⟨k + 1,by omega,by omega,le_of h0 rfl ⟨rfl,rfl,rfl,congrArg (fun z:Int=>some (AV.i z)) (by omega),trivial⟩ ⟨rfl,rfl,trivial⟩ rfl rfl rfl⟩
    | (exfalso;omega)
  have hko:6 + (k:Int) = o:=by omega
  rw [hko]
  clear hno
  generalize sgnX o = z at *
  repeat' ((first | (refine draw_id 9 ?_;refine draw_le (id:=9) (σ':=⟨[(0, .ref 0 0),(2, .ref 1 0),(4, .iptr (xprX x)),(6, .i o),(7, .iptr (xprX y)),(8, .b true)],2,[(0,rdBx s t3),(1,some (.box zerX))]⟩) (le_of h0 rfl ⟨rfl,rfl,rfl,rfl,rfl,rfl,trivial⟩ ⟨rfl,rfl,trivial⟩ rfl rfl rfl) ?_;refine draw_m (id:=9) ⟨[(2, .ref 1 0),(3, .b true)],2,[(0,rdBx s t4),(1,some (.box [.i o, .i 0, .str [], .i 0,nilR,nilR, .i 0, .i 0, .i 0, .i 0, .i 0,nilR, .i 0, .i 0, .i 0, .i 0, .i 0,nilR, .sl 19 [xprX x,xprX y]]))]⟩ ?_ ?_) | refine call_i hsg ?_ |refine aops_go ?_|refine S1 ?_|refine Z1 ?_|refine Z2 ?_|(refine And.intro ?_ ?_<;>intro h<;>try first|(exfalso;omega)|exact absurd rfl h)|refine Z3 ?_|refine Z4 ?_|intro el hel hbB|intro el hel|intro ex|refine Z5 ?_|(refine free_i ?_ ?_;exact ⟨by kernel_rfl,by decide⟩)|refine allI_c ?_ ?_|exact allI_n|refine allMP_c ?_ ?_|exact allMP_n|(refine many_step ?_ ?_ ?_;kernel_rfl;kernel_rfl) | refine nc [0] [0] hy rfl rfl rfl ⟨rfl,trivial⟩ ?_ | refine nc [0] [0] r4 rfl rfl rfl ⟨rfl,trivial⟩ ?_ | refine nc [0] [0] r5 rfl rfl rfl ⟨rfl,trivial⟩ ?_) <;> (try (conv=>whnf)))
  all_goals first
   | exact le_of h0 rfl ⟨rfl,rfl,trivial⟩ ⟨rfl,rfl,trivial⟩ rfl rfl rfl
   | exact retg_vs (rvs:=[.cell 2 xprT, .tmp 3]) (vs:=[_,_]) ⟨1,_,_,rfl,rfl,inferInstance,rfl,rfl,trivial⟩ rfl rfl (le_trans (le_slot 2 (xprA (.mk o 0 [] 0 [] [] zX zX [x,y])) rfl (nl_xpr (.mk o 0 [] 0 [] [] zX zX [x,y]) (.nil _) (.nil _) (.nil _) (.nil _) (nl_kids x y))) (le_of h0 rfl ⟨rfl,rfl,trivial⟩ ⟨rfl,trivial⟩ rfl rfl rfl)) rfl
   | (exfalso;omega)
end Go.Proofs.YtjmbhlgocikfiaaGreatDoor

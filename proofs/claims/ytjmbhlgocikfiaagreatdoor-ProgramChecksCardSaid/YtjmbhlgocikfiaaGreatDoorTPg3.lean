/- Chapter 16: the program's reader: operations with parts. -/
import Derived.Test.YtjmbhlgocikfiaaGreatDoorTPg2
set_option linter.unusedVariables false
set_option linter.unnecessarySimpa false
set_option linter.unusedSimpArgs false
namespace Go.Proofs.YtjmbhlgocikfiaaGreatDoor
open Go Go.Av
attribute [local irreducible] AWp AOps AAny MAny DQ retQ retG St.le FCall GCall
set_option maxRecDepth 100000
abbrev rdBx (s:Sch) (t:List UInt8):Option Blk:=some (.box [.sl 2 (s.lists.map clL), .sl 7 (s.cols.map colL), .str t])
theorem colsO_len {s:Sch} {n:Nat} {t u:List UInt8} {ds:List Int} (h:colsO s n [] t = some (ds,u)):u.length ≤ t.length:=by
 obtain ⟨r,_,_,e⟩:=colsO_inv n [] t u ds h
 rw [e,List.length_append];omega
theorem tabO_len {s:Sch} {t u:List UInt8} {z:Int × List Pk} (h:tabO s t = some (z,u)):u.length ≤ t.length:=by
 obtain ⟨c,ds⟩:=z
 rw [tabO_inv h,List.length_append];omega
set_option maxHeartbeats 16000000 in
theorem pparts_cnt (s:Sch) (hr:schE s = 0) (t:List UInt8) (ht:t.length ≤ 1000000) (Z:Option (Xpr × List UInt8)) (hZ:Z = parsO s 3 t):∃ z:Xpr,GCall Tryz.prog 120 1 (rdP s t) [.ref 0 0, .i 3] 1 (hpO s Z) (tupO xprA (xprA z) Z):=by
 unfold parsO at hZ
 unfold headO at hZ
 rw [if_pos rfl] at hZ;(try dsimp only at hZ)
 unfold midO at hZ
 rw [if_neg (by decide),if_neg (by decide),if_neg (by decide)] at hZ;(try dsimp only at hZ)
 rcases hc1:cndO s t with _ | ⟨cd5,u2⟩
 ·rw [hc1] at hZ;(try dsimp only at hZ);subst hZ
  obtain ⟨v,w,r3⟩:=pcnd_no hr hc1 (by omega)
  refine ⟨(Xpr.mk 3 0 [] 0 [] [] v zX []),?_⟩
  refine gci Tryz.func120 90 fun E h0=>?_
  repeat' ((first | (refine draw_id 23 ?_;refine draw_le (id:=23) (σ':=⟨[(0, .ref 0 0),(4, .ref 1 0),(6, .iptr [.i 3, .i 0, .str [], .i 0,nilR,nilR, .i (Cnd.op v), .i (Cnd.col v), .i (Cnd.code v), .i (Cnd.lo v), .i (Cnd.hi v), .sl 6 ((Cnd.kids v).map cndL), .i 0, .i 0, .i 0, .i 0, .i 0,nilR,nilR]),(7, .b false)],2,[(0,rdBx s w),(1,some (.box [.i 0, .i 0, .str [], .i 0,nilR,nilR, .i 0, .i 0, .i 0, .i 0, .i 0,nilR, .i 0, .i 0, .i 0, .i 0, .i 0,nilR,nilR]))]⟩) (le_of h0 rfl ⟨rfl,rfl,rfl,rfl,trivial⟩ ⟨rfl,rfl,trivial⟩ rfl rfl rfl) ?_;refine draw_m (id:=23) ⟨[(4, .ref 1 0),(5, .b false)],2,[(0,rdBx s w),(1,some (.box [.i 3, .i 0, .str [], .i 0,nilR,nilR, .i (Cnd.op v), .i (Cnd.col v), .i (Cnd.code v), .i (Cnd.lo v), .i (Cnd.hi v), .sl 6 ((Cnd.kids v).map cndL), .i 0, .i 0, .i 0, .i 0, .i 0,nilR,nilR]))]⟩ ?_ ?_) |refine aops_go ?_|refine S1 ?_|refine Z1 ?_|refine Z2 ?_|(refine And.intro ?_ ?_<;>intro h<;>try first|(exfalso;omega)|exact absurd rfl h)|refine Z3 ?_|refine Z4 ?_|intro el hel hbB|intro el hel|intro ex|refine Z5 ?_|(refine free_i ?_ ?_;exact ⟨by kernel_rfl,by decide⟩)|refine allI_c ?_ ?_|exact allI_n|refine allMP_c ?_ ?_|exact allMP_n|(refine many_step ?_ ?_ ?_;kernel_rfl;kernel_rfl) | refine nc [0] [0] r3 rfl rfl rfl ⟨rfl,trivial⟩ ?_) <;> (try (conv=>whnf)))
  all_goals first
   | exact le_of h0 rfl ⟨rfl,rfl,trivial⟩ ⟨rfl,rfl,trivial⟩ rfl rfl rfl
   | exact retg_vs (rvs:=[.cell 4 xprT, .tmp 5]) (vs:=[_,_]) ⟨1,_,_,rfl,rfl,inferInstance,rfl,rfl,trivial⟩ rfl rfl (le_trans (le_slot 4 (xprA (Xpr.mk 3 0 [] 0 [] [] v zX [])) rfl (nl_xpr (Xpr.mk 3 0 [] 0 [] [] v zX []) (.nil _) (.nil _) (.refl _) (.nil _) (.nil _))) (le_trans (le_rd 0 rfl) (le_of h0 rfl ⟨rfl,rfl,trivial⟩ ⟨rfl,trivial⟩ rfl rfl rfl))) rfl
   | (exfalso;omega)
 rw [hc1] at hZ;(try dsimp only at hZ)
 obtain ⟨r3,l4⟩:=pcnd_yes hr hc1 (by omega)
 rcases hk6:takO [41] u2 with _ | u7
 ·rw [hk6] at hZ;(try dsimp only at hZ);subst hZ
  have r8:=ptake_no (s:=s) hk6 (by omega) (by decide)
  refine ⟨(Xpr.mk 3 0 [] 0 [] [] cd5 zX []),?_⟩
  refine gci Tryz.func120 90 fun E h0=>?_
  repeat' ((first | (refine draw_id 23 ?_;refine draw_le (id:=23) (σ':=⟨[(0, .ref 0 0),(4, .ref 1 0),(6, .iptr [.i 3, .i 0, .str [], .i 0,nilR,nilR, .i (Cnd.op cd5), .i (Cnd.col cd5), .i (Cnd.code cd5), .i (Cnd.lo cd5), .i (Cnd.hi cd5), .sl 6 ((Cnd.kids cd5).map cndL), .i 0, .i 0, .i 0, .i 0, .i 0,nilR,nilR]),(7, .b true)],2,[(0,rdBx s u2),(1,some (.box [.i 0, .i 0, .str [], .i 0,nilR,nilR, .i 0, .i 0, .i 0, .i 0, .i 0,nilR, .i 0, .i 0, .i 0, .i 0, .i 0,nilR,nilR]))]⟩) (le_of h0 rfl ⟨rfl,rfl,rfl,rfl,trivial⟩ ⟨rfl,rfl,trivial⟩ rfl rfl rfl) ?_;refine draw_m (id:=23) ⟨[(4, .ref 1 0),(5, .b false)],2,[(0,rdBx s u2),(1,some (.box [.i 3, .i 0, .str [], .i 0,nilR,nilR, .i (Cnd.op cd5), .i (Cnd.col cd5), .i (Cnd.code cd5), .i (Cnd.lo cd5), .i (Cnd.hi cd5), .sl 6 ((Cnd.kids cd5).map cndL), .i 0, .i 0, .i 0, .i 0, .i 0,nilR,nilR]))]⟩ ?_ ?_) |refine aops_go ?_|refine S1 ?_|refine Z1 ?_|refine Z2 ?_|(refine And.intro ?_ ?_<;>intro h<;>try first|(exfalso;omega)|exact absurd rfl h)|refine Z3 ?_|refine Z4 ?_|intro el hel hbB|intro el hel|intro ex|refine Z5 ?_|(refine free_i ?_ ?_;exact ⟨by kernel_rfl,by decide⟩)|refine allI_c ?_ ?_|exact allI_n|refine allMP_c ?_ ?_|exact allMP_n|(refine many_step ?_ ?_ ?_;kernel_rfl;kernel_rfl) | refine nc [0] [0] r3 rfl rfl rfl ⟨rfl,trivial⟩ ?_ | refine nc [0] [0] r8 rfl rfl rfl ⟨rfl,trivial⟩ ?_) <;> (try (conv=>whnf)))
  all_goals first
   | exact le_of h0 rfl ⟨rfl,rfl,trivial⟩ ⟨rfl,rfl,trivial⟩ rfl rfl rfl
   | exact retg_vs (rvs:=[.cell 4 xprT, .tmp 5]) (vs:=[_,_]) ⟨1,_,_,rfl,rfl,inferInstance,rfl,rfl,trivial⟩ rfl rfl (le_trans (le_slot 4 (xprA (Xpr.mk 3 0 [] 0 [] [] cd5 zX [])) rfl (nl_xpr (Xpr.mk 3 0 [] 0 [] [] cd5 zX []) (.nil _) (.nil _) (.refl _) (.nil _) (.nil _))) (le_trans (le_rd 0 rfl) (le_of h0 rfl ⟨rfl,rfl,trivial⟩ ⟨rfl,trivial⟩ rfl rfl rfl))) rfl
   | (exfalso;omega)
 ·rw [hk6] at hZ;(try dsimp only at hZ);subst hZ
  have r8:=ptake_yes (s:=s) hk6 (by omega) (by decide)
  refine ⟨(Xpr.mk 3 0 [] 0 [] [] cd5 zX []),?_⟩
  refine gci Tryz.func120 90 fun E h0=>?_
  repeat' ((first | (refine draw_id 23 ?_;refine draw_le (id:=23) (σ':=⟨[(0, .ref 0 0),(4, .ref 1 0),(6, .iptr [.i 3, .i 0, .str [], .i 0,nilR,nilR, .i (Cnd.op cd5), .i (Cnd.col cd5), .i (Cnd.code cd5), .i (Cnd.lo cd5), .i (Cnd.hi cd5), .sl 6 ((Cnd.kids cd5).map cndL), .i 0, .i 0, .i 0, .i 0, .i 0,nilR,nilR]),(7, .b true)],2,[(0,rdBx s u2),(1,some (.box [.i 0, .i 0, .str [], .i 0,nilR,nilR, .i 0, .i 0, .i 0, .i 0, .i 0,nilR, .i 0, .i 0, .i 0, .i 0, .i 0,nilR,nilR]))]⟩) (le_of h0 rfl ⟨rfl,rfl,rfl,rfl,trivial⟩ ⟨rfl,rfl,trivial⟩ rfl rfl rfl) ?_;refine draw_m (id:=23) ⟨[(4, .ref 1 0),(5, .b true)],2,[(0,rdBx s u7),(1,some (.box [.i 3, .i 0, .str [], .i 0,nilR,nilR, .i (Cnd.op cd5), .i (Cnd.col cd5), .i (Cnd.code cd5), .i (Cnd.lo cd5), .i (Cnd.hi cd5), .sl 6 ((Cnd.kids cd5).map cndL), .i 0, .i 0, .i 0, .i 0, .i 0,nilR,nilR]))]⟩ ?_ ?_) |refine aops_go ?_|refine S1 ?_|refine Z1 ?_|refine Z2 ?_|(refine And.intro ?_ ?_<;>intro h<;>try first|(exfalso;omega)|exact absurd rfl h)|refine Z3 ?_|refine Z4 ?_|intro el hel hbB|intro el hel|intro ex|refine Z5 ?_|(refine free_i ?_ ?_;exact ⟨by kernel_rfl,by decide⟩)|refine allI_c ?_ ?_|exact allI_n|refine allMP_c ?_ ?_|exact allMP_n|(refine many_step ?_ ?_ ?_;kernel_rfl;kernel_rfl) | refine nc [0] [0] r3 rfl rfl rfl ⟨rfl,trivial⟩ ?_ | refine nc [0] [0] r8 rfl rfl rfl ⟨rfl,trivial⟩ ?_) <;> (try (conv=>whnf)))
  all_goals first
   | exact le_of h0 rfl ⟨rfl,rfl,trivial⟩ ⟨rfl,rfl,trivial⟩ rfl rfl rfl
   | exact retg_vs (rvs:=[.cell 4 xprT, .tmp 5]) (vs:=[_,_]) ⟨1,_,_,rfl,rfl,inferInstance,rfl,rfl,trivial⟩ rfl rfl (le_trans (le_slot 4 (xprA (Xpr.mk 3 0 [] 0 [] [] cd5 zX [])) rfl (nl_xpr (Xpr.mk 3 0 [] 0 [] [] cd5 zX []) (.nil _) (.nil _) (.refl _) (.nil _) (.nil _))) (le_of h0 rfl ⟨rfl,rfl,trivial⟩ ⟨rfl,trivial⟩ rfl rfl rfl)) rfl
   | (exfalso;omega)
set_option maxHeartbeats 16000000 in
theorem pparts_one (s:Sch) (hr:schE s = 0) (t:List UInt8) (ht:t.length ≤ 1000000) (o:Int) (ho:o = 4 ∨ o = 5 ∨ o = 14) (Z:Option (Xpr × List UInt8)) (hZ:Z = parsO s o t):∃ z:Xpr,GCall Tryz.prog 120 1 (rdP s t) [.ref 0 0, .i o] 1 (hpO s Z) (tupO xprA (xprA z) Z):=by
 unfold parsO at hZ
 unfold headO at hZ
 rw [if_neg (by omega),if_neg (by omega)] at hZ;(try dsimp only at hZ)
 rcases hc1:colO s t with _ | ⟨c5,u2⟩
 ·rw [hc1] at hZ;(try dsimp only at hZ);subst hZ
  obtain ⟨v,w,r3⟩:=pcol_no hc1 (by omega)
  refine ⟨(Xpr.mk o 0 [] v [] [] zX zX []),?_⟩
  refine gci Tryz.func120 90 fun E h0=>?_
  repeat' ((first|refine aops_go ?_|refine S1 ?_|refine Z1 ?_|refine Z2 ?_|(refine And.intro ?_ ?_<;>intro h<;>try first|(exfalso;omega)|exact absurd rfl h)|refine Z3 ?_|refine Z4 ?_|intro el hel hbB|intro el hel|intro ex|refine Z5 ?_|(refine free_i ?_ ?_;exact ⟨by kernel_rfl,by decide⟩)|refine allI_c ?_ ?_|exact allI_n|refine allMP_c ?_ ?_|exact allMP_n|(refine many_step ?_ ?_ ?_;kernel_rfl;kernel_rfl) | refine nc [0] [0] r3 rfl rfl rfl ⟨rfl,trivial⟩ ?_) <;> (try (conv=>whnf)))
  all_goals first
   | exact retg_vs (rvs:=[.cell 4 xprT, .tmp 5]) (vs:=[_,_]) ⟨1,_,_,rfl,rfl,inferInstance,rfl,rfl,trivial⟩ rfl rfl (le_trans (le_slot 4 (xprA (Xpr.mk o 0 [] v [] [] zX zX [])) rfl (nl_xpr (Xpr.mk o 0 [] v [] [] zX zX []) (.nil _) (.nil _) (.nil _) (.nil _) (.nil _))) (le_trans (le_rd 0 rfl) (le_of h0 rfl ⟨rfl,rfl,trivial⟩ ⟨rfl,trivial⟩ rfl rfl rfl))) rfl
   | (exfalso;omega)
 rw [hc1] at hZ;(try dsimp only at hZ)
 obtain ⟨r3,l4⟩:=pcol_yes hc1 (by omega)
 rcases hk6:takO bSep u2 with _ | u7
 ·rw [hk6] at hZ;(try dsimp only at hZ);subst hZ
  have r8:=ptake_no (s:=s) hk6 (by omega) (by decide)
  refine ⟨(Xpr.mk o 0 [] c5 [] [] zX zX []),?_⟩
  refine gci Tryz.func120 90 fun E h0=>?_
  repeat' ((first|refine aops_go ?_|refine S1 ?_|refine Z1 ?_|refine Z2 ?_|(refine And.intro ?_ ?_<;>intro h<;>try first|(exfalso;omega)|exact absurd rfl h)|refine Z3 ?_|refine Z4 ?_|intro el hel hbB|intro el hel|intro ex|refine Z5 ?_|(refine free_i ?_ ?_;exact ⟨by kernel_rfl,by decide⟩)|refine allI_c ?_ ?_|exact allI_n|refine allMP_c ?_ ?_|exact allMP_n|(refine many_step ?_ ?_ ?_;kernel_rfl;kernel_rfl) | refine nc [0] [0] r3 rfl rfl rfl ⟨rfl,trivial⟩ ?_ | refine nc [0] [0] r8 rfl rfl rfl ⟨rfl,trivial⟩ ?_) <;> (try (conv=>whnf)))
  all_goals first
   | exact retg_vs (rvs:=[.cell 4 xprT, .tmp 5]) (vs:=[_,_]) ⟨1,_,_,rfl,rfl,inferInstance,rfl,rfl,trivial⟩ rfl rfl (le_trans (le_slot 4 (xprA (Xpr.mk o 0 [] c5 [] [] zX zX [])) rfl (nl_xpr (Xpr.mk o 0 [] c5 [] [] zX zX []) (.nil _) (.nil _) (.nil _) (.nil _) (.nil _))) (le_trans (le_rd 0 rfl) (le_of h0 rfl ⟨rfl,rfl,trivial⟩ ⟨rfl,trivial⟩ rfl rfl rfl))) rfl
   | (exfalso;omega)
 rw [hk6] at hZ;(try dsimp only at hZ)
 have r8:=ptake_yes (s:=s) hk6 (by omega) (by decide)
 have l9:=takO_len hk6
 unfold midO at hZ
 rw [if_neg (by omega),if_neg (by omega),if_neg (by omega)] at hZ;(try dsimp only at hZ)
 rcases hc10:cndO s u7 with _ | ⟨cd14,u11⟩
 ·rw [hc10] at hZ;(try dsimp only at hZ);subst hZ
  obtain ⟨v,w,r12⟩:=pcnd_no hr hc10 (by omega)
  refine ⟨(Xpr.mk o 0 [] c5 [] [] v zX []),?_⟩
  refine gci Tryz.func120 90 fun E h0=>?_
  repeat' ((first | (refine draw_id 23 ?_;refine draw_le (id:=23) (σ':=⟨[(0, .ref 0 0),(4, .ref 1 0),(6, .iptr [.i o, .i 0, .str [], .i c5,nilR,nilR, .i (Cnd.op v), .i (Cnd.col v), .i (Cnd.code v), .i (Cnd.lo v), .i (Cnd.hi v), .sl 6 ((Cnd.kids v).map cndL), .i 0, .i 0, .i 0, .i 0, .i 0,nilR,nilR]),(7, .b false)],2,[(0,rdBx s w),(1,some (.box [.i 0, .i 0, .str [], .i 0,nilR,nilR, .i 0, .i 0, .i 0, .i 0, .i 0,nilR, .i 0, .i 0, .i 0, .i 0, .i 0,nilR,nilR]))]⟩) (le_of h0 rfl ⟨rfl,rfl,rfl,rfl,trivial⟩ ⟨rfl,rfl,trivial⟩ rfl rfl rfl) ?_;refine draw_m (id:=23) ⟨[(4, .ref 1 0),(5, .b false)],2,[(0,rdBx s w),(1,some (.box [.i o, .i 0, .str [], .i c5,nilR,nilR, .i (Cnd.op v), .i (Cnd.col v), .i (Cnd.code v), .i (Cnd.lo v), .i (Cnd.hi v), .sl 6 ((Cnd.kids v).map cndL), .i 0, .i 0, .i 0, .i 0, .i 0,nilR,nilR]))]⟩ ?_ ?_) |refine aops_go ?_|refine S1 ?_|refine Z1 ?_|refine Z2 ?_|(refine And.intro ?_ ?_<;>intro h<;>try first|(exfalso;omega)|exact absurd rfl h)|refine Z3 ?_|refine Z4 ?_|intro el hel hbB|intro el hel|intro ex|refine Z5 ?_|(refine free_i ?_ ?_;exact ⟨by kernel_rfl,by decide⟩)|refine allI_c ?_ ?_|exact allI_n|refine allMP_c ?_ ?_|exact allMP_n|(refine many_step ?_ ?_ ?_;kernel_rfl;kernel_rfl) | refine nc [0] [0] r3 rfl rfl rfl ⟨rfl,trivial⟩ ?_ | refine nc [0] [0] r8 rfl rfl rfl ⟨rfl,trivial⟩ ?_ | refine nc [0] [0] r12 rfl rfl rfl ⟨rfl,trivial⟩ ?_) <;> (try (conv=>whnf)))
  all_goals first
   | exact le_of h0 rfl ⟨rfl,rfl,trivial⟩ ⟨rfl,rfl,trivial⟩ rfl rfl rfl
   | exact retg_vs (rvs:=[.cell 4 xprT, .tmp 5]) (vs:=[_,_]) ⟨1,_,_,rfl,rfl,inferInstance,rfl,rfl,trivial⟩ rfl rfl (le_trans (le_slot 4 (xprA (Xpr.mk o 0 [] c5 [] [] v zX [])) rfl (nl_xpr (Xpr.mk o 0 [] c5 [] [] v zX []) (.nil _) (.nil _) (.refl _) (.nil _) (.nil _))) (le_trans (le_rd 0 rfl) (le_of h0 rfl ⟨rfl,rfl,trivial⟩ ⟨rfl,trivial⟩ rfl rfl rfl))) rfl
   | (exfalso;omega)
 rw [hc10] at hZ;(try dsimp only at hZ)
 obtain ⟨r12,l13⟩:=pcnd_yes hr hc10 (by omega)
 rcases hk15:takO [41] u11 with _ | u16
 ·rw [hk15] at hZ;(try dsimp only at hZ);subst hZ
  have r17:=ptake_no (s:=s) hk15 (by omega) (by decide)
  refine ⟨(Xpr.mk o 0 [] c5 [] [] cd14 zX []),?_⟩
  refine gci Tryz.func120 90 fun E h0=>?_
  repeat' ((first | (refine draw_id 23 ?_;refine draw_le (id:=23) (σ':=⟨[(0, .ref 0 0),(4, .ref 1 0),(6, .iptr [.i o, .i 0, .str [], .i c5,nilR,nilR, .i (Cnd.op cd14), .i (Cnd.col cd14), .i (Cnd.code cd14), .i (Cnd.lo cd14), .i (Cnd.hi cd14), .sl 6 ((Cnd.kids cd14).map cndL), .i 0, .i 0, .i 0, .i 0, .i 0,nilR,nilR]),(7, .b true)],2,[(0,rdBx s u11),(1,some (.box [.i 0, .i 0, .str [], .i 0,nilR,nilR, .i 0, .i 0, .i 0, .i 0, .i 0,nilR, .i 0, .i 0, .i 0, .i 0, .i 0,nilR,nilR]))]⟩) (le_of h0 rfl ⟨rfl,rfl,rfl,rfl,trivial⟩ ⟨rfl,rfl,trivial⟩ rfl rfl rfl) ?_;refine draw_m (id:=23) ⟨[(4, .ref 1 0),(5, .b false)],2,[(0,rdBx s u11),(1,some (.box [.i o, .i 0, .str [], .i c5,nilR,nilR, .i (Cnd.op cd14), .i (Cnd.col cd14), .i (Cnd.code cd14), .i (Cnd.lo cd14), .i (Cnd.hi cd14), .sl 6 ((Cnd.kids cd14).map cndL), .i 0, .i 0, .i 0, .i 0, .i 0,nilR,nilR]))]⟩ ?_ ?_) |refine aops_go ?_|refine S1 ?_|refine Z1 ?_|refine Z2 ?_|(refine And.intro ?_ ?_<;>intro h<;>try first|(exfalso;omega)|exact absurd rfl h)|refine Z3 ?_|refine Z4 ?_|intro el hel hbB|intro el hel|intro ex|refine Z5 ?_|(refine free_i ?_ ?_;exact ⟨by kernel_rfl,by decide⟩)|refine allI_c ?_ ?_|exact allI_n|refine allMP_c ?_ ?_|exact allMP_n|(refine many_step ?_ ?_ ?_;kernel_rfl;kernel_rfl) | refine nc [0] [0] r3 rfl rfl rfl ⟨rfl,trivial⟩ ?_ | refine nc [0] [0] r8 rfl rfl rfl ⟨rfl,trivial⟩ ?_ | refine nc [0] [0] r12 rfl rfl rfl ⟨rfl,trivial⟩ ?_ | refine nc [0] [0] r17 rfl rfl rfl ⟨rfl,trivial⟩ ?_) <;> (try (conv=>whnf)))
  all_goals first
   | exact le_of h0 rfl ⟨rfl,rfl,trivial⟩ ⟨rfl,rfl,trivial⟩ rfl rfl rfl
   | exact retg_vs (rvs:=[.cell 4 xprT, .tmp 5]) (vs:=[_,_]) ⟨1,_,_,rfl,rfl,inferInstance,rfl,rfl,trivial⟩ rfl rfl (le_trans (le_slot 4 (xprA (Xpr.mk o 0 [] c5 [] [] cd14 zX [])) rfl (nl_xpr (Xpr.mk o 0 [] c5 [] [] cd14 zX []) (.nil _) (.nil _) (.refl _) (.nil _) (.nil _))) (le_trans (le_rd 0 rfl) (le_of h0 rfl ⟨rfl,rfl,trivial⟩ ⟨rfl,trivial⟩ rfl rfl rfl))) rfl
   | (exfalso;omega)
 ·rw [hk15] at hZ;(try dsimp only at hZ);subst hZ
  have r17:=ptake_yes (s:=s) hk15 (by omega) (by decide)
  refine ⟨(Xpr.mk o 0 [] c5 [] [] cd14 zX []),?_⟩
  refine gci Tryz.func120 90 fun E h0=>?_
  repeat' ((first | (refine draw_id 23 ?_;refine draw_le (id:=23) (σ':=⟨[(0, .ref 0 0),(4, .ref 1 0),(6, .iptr [.i o, .i 0, .str [], .i c5,nilR,nilR, .i (Cnd.op cd14), .i (Cnd.col cd14), .i (Cnd.code cd14), .i (Cnd.lo cd14), .i (Cnd.hi cd14), .sl 6 ((Cnd.kids cd14).map cndL), .i 0, .i 0, .i 0, .i 0, .i 0,nilR,nilR]),(7, .b true)],2,[(0,rdBx s u11),(1,some (.box [.i 0, .i 0, .str [], .i 0,nilR,nilR, .i 0, .i 0, .i 0, .i 0, .i 0,nilR, .i 0, .i 0, .i 0, .i 0, .i 0,nilR,nilR]))]⟩) (le_of h0 rfl ⟨rfl,rfl,rfl,rfl,trivial⟩ ⟨rfl,rfl,trivial⟩ rfl rfl rfl) ?_;refine draw_m (id:=23) ⟨[(4, .ref 1 0),(5, .b true)],2,[(0,rdBx s u16),(1,some (.box [.i o, .i 0, .str [], .i c5,nilR,nilR, .i (Cnd.op cd14), .i (Cnd.col cd14), .i (Cnd.code cd14), .i (Cnd.lo cd14), .i (Cnd.hi cd14), .sl 6 ((Cnd.kids cd14).map cndL), .i 0, .i 0, .i 0, .i 0, .i 0,nilR,nilR]))]⟩ ?_ ?_) |refine aops_go ?_|refine S1 ?_|refine Z1 ?_|refine Z2 ?_|(refine And.intro ?_ ?_<;>intro h<;>try first|(exfalso;omega)|exact absurd rfl h)|refine Z3 ?_|refine Z4 ?_|intro el hel hbB|intro el hel|intro ex|refine Z5 ?_|(refine free_i ?_ ?_;exact ⟨by kernel_rfl,by decide⟩)|refine allI_c ?_ ?_|exact allI_n|refine allMP_c ?_ ?_|exact allMP_n|(refine many_step ?_ ?_ ?_;kernel_rfl;kernel_rfl) | refine nc [0] [0] r3 rfl rfl rfl ⟨rfl,trivial⟩ ?_ | refine nc [0] [0] r8 rfl rfl rfl ⟨rfl,trivial⟩ ?_ | refine nc [0] [0] r12 rfl rfl rfl ⟨rfl,trivial⟩ ?_ | refine nc [0] [0] r17 rfl rfl rfl ⟨rfl,trivial⟩ ?_) <;> (try (conv=>whnf)))
  all_goals first
   | exact le_of h0 rfl ⟨rfl,rfl,trivial⟩ ⟨rfl,rfl,trivial⟩ rfl rfl rfl
   | exact retg_vs (rvs:=[.cell 4 xprT, .tmp 5]) (vs:=[_,_]) ⟨1,_,_,rfl,rfl,inferInstance,rfl,rfl,trivial⟩ rfl rfl (le_trans (le_slot 4 (xprA (Xpr.mk o 0 [] c5 [] [] cd14 zX [])) rfl (nl_xpr (Xpr.mk o 0 [] c5 [] [] cd14 zX []) (.nil _) (.nil _) (.refl _) (.nil _) (.nil _))) (le_of h0 rfl ⟨rfl,rfl,trivial⟩ ⟨rfl,trivial⟩ rfl rfl rfl)) rfl
   | (exfalso;omega)
set_option maxHeartbeats 16000000 in
theorem pparts_tab (s:Sch) (hr:schE s = 0) (t:List UInt8) (ht:t.length ≤ 1000000) (Z:Option (Xpr × List UInt8)) (hZ:Z = parsO s 10 t):∃ z:Xpr,GCall Tryz.prog 120 1 (rdP s t) [.ref 0 0, .i 10] 1 (hpO s Z) (tupO xprA (xprA z) Z):=by
 unfold parsO at hZ
 unfold headO at hZ
 rw [if_neg (by decide),if_pos rfl] at hZ;(try dsimp only at hZ)
 rcases hc1:tabO s t with _ | ⟨⟨c5,ds6⟩,u2⟩
 ·rw [hc1] at hZ;(try dsimp only at hZ);subst hZ
  obtain ⟨v,w,B,hB,r3⟩:=ptable_no s t (by omega) hc1
  rcases hB with ⟨rfl,rfl⟩ | rfl
  ·skip
   refine ⟨(Xpr.mk 10 0 [] v [] [] zX zX []),?_⟩
   refine gci Tryz.func120 90 fun E h0=>?_
   repeat' ((first|refine aops_go ?_|refine S1 ?_|refine Z1 ?_|refine Z2 ?_|(refine And.intro ?_ ?_<;>intro h<;>try first|(exfalso;omega)|exact absurd rfl h)|refine Z3 ?_|refine Z4 ?_|intro el hel hbB|intro el hel|intro ex|refine Z5 ?_|(refine free_i ?_ ?_;exact ⟨by kernel_rfl,by decide⟩)|refine allI_c ?_ ?_|exact allI_n|refine allMP_c ?_ ?_|exact allMP_n|(refine many_step ?_ ?_ ?_;kernel_rfl;kernel_rfl) | refine nc [0,2] [0,0] r3 rfl rfl rfl ⟨rfl,rfl,trivial⟩ ?_) <;> (try (conv=>whnf)))
   all_goals first
    | exact retg_vs (rvs:=[.cell 4 xprT, .tmp 5]) (vs:=[_,_]) ⟨1,_,_,rfl,rfl,inferInstance,rfl,rfl,trivial⟩ rfl rfl (le_trans (le_slot 4 (xprA (Xpr.mk 10 0 [] v [] [] zX zX [])) rfl (nl_xpr (Xpr.mk 10 0 [] v [] [] zX zX []) (.nil _) (.nil _) (.nil _) (.nil _) (.nil _))) (le_trans (le_rd 0 rfl) (le_of h0 rfl ⟨rfl,rfl,trivial⟩ ⟨rfl,trivial⟩ rfl rfl rfl))) rfl
    | (exfalso;omega)
  ·skip
   refine ⟨(Xpr.mk 10 0 [] v [] w zX zX []),?_⟩
   refine gci Tryz.func120 90 fun E h0=>?_
   repeat' ((first|refine aops_go ?_|refine S1 ?_|refine Z1 ?_|refine Z2 ?_|(refine And.intro ?_ ?_<;>intro h<;>try first|(exfalso;omega)|exact absurd rfl h)|refine Z3 ?_|refine Z4 ?_|intro el hel hbB|intro el hel|intro ex|refine Z5 ?_|(refine free_i ?_ ?_;exact ⟨by kernel_rfl,by decide⟩)|refine allI_c ?_ ?_|exact allI_n|refine allMP_c ?_ ?_|exact allMP_n|(refine many_step ?_ ?_ ?_;kernel_rfl;kernel_rfl) | refine nc [0,2] [0,0] r3 rfl rfl rfl ⟨rfl,rfl,trivial⟩ ?_) <;> (try (conv=>whnf)))
   all_goals first
    | exact retg_vs (rvs:=[.cell 4 xprT, .tmp 5]) (vs:=[_,_]) ⟨1,_,_,rfl,rfl,inferInstance,rfl,rfl,trivial⟩ rfl rfl (le_trans (le_slot 4 (xprA (Xpr.mk 10 0 [] v [] w zX zX [])) rfl (nl_xpr (Xpr.mk 10 0 [] v [] w zX zX []) (.nil _) (.refl _) (.nil _) (.nil _) (.nil _))) (le_trans (le_rd 0 rfl) (le_of h0 rfl ⟨rfl,rfl,trivial⟩ ⟨rfl,trivial⟩ rfl rfl rfl))) rfl
    | (exfalso;omega)
 rw [hc1] at hZ;(try dsimp only at hZ)
 have r3:=ptable_yes s t (by omega) hc1
 have l4:=tabO_len hc1
 rcases hk7:takO bSep u2 with _ | u8
 ·rw [hk7] at hZ;(try dsimp only at hZ);subst hZ
  have r9:=ptake_no (s:=s) hk7 (by omega) (by decide)
  refine ⟨(Xpr.mk 10 0 [] c5 [] ds6 zX zX []),?_⟩
  refine gci Tryz.func120 90 fun E h0=>?_
  repeat' ((first|refine aops_go ?_|refine S1 ?_|refine Z1 ?_|refine Z2 ?_|(refine And.intro ?_ ?_<;>intro h<;>try first|(exfalso;omega)|exact absurd rfl h)|refine Z3 ?_|refine Z4 ?_|intro el hel hbB|intro el hel|intro ex|refine Z5 ?_|(refine free_i ?_ ?_;exact ⟨by kernel_rfl,by decide⟩)|refine allI_c ?_ ?_|exact allI_n|refine allMP_c ?_ ?_|exact allMP_n|(refine many_step ?_ ?_ ?_;kernel_rfl;kernel_rfl) | refine nc [0,2] [0,0] r3 rfl rfl rfl ⟨rfl,rfl,trivial⟩ ?_ | refine nc [0] [0] r9 rfl rfl rfl ⟨rfl,trivial⟩ ?_) <;> (try (conv=>whnf)))
  all_goals first
   | exact retg_vs (rvs:=[.cell 4 xprT, .tmp 5]) (vs:=[_,_]) ⟨1,_,_,rfl,rfl,inferInstance,rfl,rfl,trivial⟩ rfl rfl (le_trans (le_slot 4 (xprA (Xpr.mk 10 0 [] c5 [] ds6 zX zX [])) rfl (nl_xpr (Xpr.mk 10 0 [] c5 [] ds6 zX zX []) (.nil _) (.refl _) (.nil _) (.nil _) (.nil _))) (le_trans (le_rd 0 rfl) (le_of h0 rfl ⟨rfl,rfl,trivial⟩ ⟨rfl,trivial⟩ rfl rfl rfl))) rfl
   | (exfalso;omega)
 rw [hk7] at hZ;(try dsimp only at hZ)
 have r9:=ptake_yes (s:=s) hk7 (by omega) (by decide)
 have l10:=takO_len hk7
 unfold midO at hZ
 rw [if_neg (by decide),if_neg (by decide),if_neg (by decide)] at hZ;(try dsimp only at hZ)
 rcases hc11:cndO s u8 with _ | ⟨cd15,u12⟩
 ·rw [hc11] at hZ;(try dsimp only at hZ);subst hZ
  obtain ⟨v,w,r13⟩:=pcnd_no hr hc11 (by omega)
  refine ⟨(Xpr.mk 10 0 [] c5 [] ds6 v zX []),?_⟩
  refine gci Tryz.func120 90 fun E h0=>?_
  repeat' ((first | (refine draw_id 23 ?_;refine draw_le (id:=23) (σ':=⟨[(0, .ref 0 0),(4, .ref 1 0),(6, .iptr [.i 10, .i 0, .str [], .i c5,nilR, .sl 2 (ds6.map pkL), .i (Cnd.op v), .i (Cnd.col v), .i (Cnd.code v), .i (Cnd.lo v), .i (Cnd.hi v), .sl 6 ((Cnd.kids v).map cndL), .i 0, .i 0, .i 0, .i 0, .i 0,nilR,nilR]),(7, .b false)],2,[(0,rdBx s w),(1,some (.box [.i 0, .i 0, .str [], .i 0,nilR,nilR, .i 0, .i 0, .i 0, .i 0, .i 0,nilR, .i 0, .i 0, .i 0, .i 0, .i 0,nilR,nilR]))]⟩) (le_of h0 rfl ⟨rfl,rfl,rfl,rfl,trivial⟩ ⟨rfl,rfl,trivial⟩ rfl rfl rfl) ?_;refine draw_m (id:=23) ⟨[(4, .ref 1 0),(5, .b false)],2,[(0,rdBx s w),(1,some (.box [.i 10, .i 0, .str [], .i c5,nilR, .sl 2 (ds6.map pkL), .i (Cnd.op v), .i (Cnd.col v), .i (Cnd.code v), .i (Cnd.lo v), .i (Cnd.hi v), .sl 6 ((Cnd.kids v).map cndL), .i 0, .i 0, .i 0, .i 0, .i 0,nilR,nilR]))]⟩ ?_ ?_) |refine aops_go ?_|refine S1 ?_|refine Z1 ?_|refine Z2 ?_|(refine And.intro ?_ ?_<;>intro h<;>try first|(exfalso;omega)|exact absurd rfl h)|refine Z3 ?_|refine Z4 ?_|intro el hel hbB|intro el hel|intro ex|refine Z5 ?_|(refine free_i ?_ ?_;exact ⟨by kernel_rfl,by decide⟩)|refine allI_c ?_ ?_|exact allI_n|refine allMP_c ?_ ?_|exact allMP_n|(refine many_step ?_ ?_ ?_;kernel_rfl;kernel_rfl) | refine nc [0,2] [0,0] r3 rfl rfl rfl ⟨rfl,rfl,trivial⟩ ?_ | refine nc [0] [0] r9 rfl rfl rfl ⟨rfl,trivial⟩ ?_ | refine nc [0] [0] r13 rfl rfl rfl ⟨rfl,trivial⟩ ?_) <;> (try (conv=>whnf)))
  all_goals first
   | exact le_of h0 rfl ⟨rfl,rfl,trivial⟩ ⟨rfl,rfl,trivial⟩ rfl rfl rfl
   | exact retg_vs (rvs:=[.cell 4 xprT, .tmp 5]) (vs:=[_,_]) ⟨1,_,_,rfl,rfl,inferInstance,rfl,rfl,trivial⟩ rfl rfl (le_trans (le_slot 4 (xprA (Xpr.mk 10 0 [] c5 [] ds6 v zX [])) rfl (nl_xpr (Xpr.mk 10 0 [] c5 [] ds6 v zX []) (.nil _) (.refl _) (.refl _) (.nil _) (.nil _))) (le_trans (le_rd 0 rfl) (le_of h0 rfl ⟨rfl,rfl,trivial⟩ ⟨rfl,trivial⟩ rfl rfl rfl))) rfl
   | (exfalso;omega)
 rw [hc11] at hZ;(try dsimp only at hZ)
 obtain ⟨r13,l14⟩:=pcnd_yes hr hc11 (by omega)
 rcases hk16:takO [41] u12 with _ | u17
 ·rw [hk16] at hZ;(try dsimp only at hZ);subst hZ
  have r18:=ptake_no (s:=s) hk16 (by omega) (by decide)
  refine ⟨(Xpr.mk 10 0 [] c5 [] ds6 cd15 zX []),?_⟩
  refine gci Tryz.func120 90 fun E h0=>?_
  repeat' ((first | (refine draw_id 23 ?_;refine draw_le (id:=23) (σ':=⟨[(0, .ref 0 0),(4, .ref 1 0),(6, .iptr [.i 10, .i 0, .str [], .i c5,nilR, .sl 2 (ds6.map pkL), .i (Cnd.op cd15), .i (Cnd.col cd15), .i (Cnd.code cd15), .i (Cnd.lo cd15), .i (Cnd.hi cd15), .sl 6 ((Cnd.kids cd15).map cndL), .i 0, .i 0, .i 0, .i 0, .i 0,nilR,nilR]),(7, .b true)],2,[(0,rdBx s u12),(1,some (.box [.i 0, .i 0, .str [], .i 0,nilR,nilR, .i 0, .i 0, .i 0, .i 0, .i 0,nilR, .i 0, .i 0, .i 0, .i 0, .i 0,nilR,nilR]))]⟩) (le_of h0 rfl ⟨rfl,rfl,rfl,rfl,trivial⟩ ⟨rfl,rfl,trivial⟩ rfl rfl rfl) ?_;refine draw_m (id:=23) ⟨[(4, .ref 1 0),(5, .b false)],2,[(0,rdBx s u12),(1,some (.box [.i 10, .i 0, .str [], .i c5,nilR, .sl 2 (ds6.map pkL), .i (Cnd.op cd15), .i (Cnd.col cd15), .i (Cnd.code cd15), .i (Cnd.lo cd15), .i (Cnd.hi cd15), .sl 6 ((Cnd.kids cd15).map cndL), .i 0, .i 0, .i 0, .i 0, .i 0,nilR,nilR]))]⟩ ?_ ?_) |refine aops_go ?_|refine S1 ?_|refine Z1 ?_|refine Z2 ?_|(refine And.intro ?_ ?_<;>intro h<;>try first|(exfalso;omega)|exact absurd rfl h)|refine Z3 ?_|refine Z4 ?_|intro el hel hbB|intro el hel|intro ex|refine Z5 ?_|(refine free_i ?_ ?_;exact ⟨by kernel_rfl,by decide⟩)|refine allI_c ?_ ?_|exact allI_n|refine allMP_c ?_ ?_|exact allMP_n|(refine many_step ?_ ?_ ?_;kernel_rfl;kernel_rfl) | refine nc [0,2] [0,0] r3 rfl rfl rfl ⟨rfl,rfl,trivial⟩ ?_ | refine nc [0] [0] r9 rfl rfl rfl ⟨rfl,trivial⟩ ?_ | refine nc [0] [0] r13 rfl rfl rfl ⟨rfl,trivial⟩ ?_ | refine nc [0] [0] r18 rfl rfl rfl ⟨rfl,trivial⟩ ?_) <;> (try (conv=>whnf)))
  all_goals first
   | exact le_of h0 rfl ⟨rfl,rfl,trivial⟩ ⟨rfl,rfl,trivial⟩ rfl rfl rfl
   | exact retg_vs (rvs:=[.cell 4 xprT, .tmp 5]) (vs:=[_,_]) ⟨1,_,_,rfl,rfl,inferInstance,rfl,rfl,trivial⟩ rfl rfl (le_trans (le_slot 4 (xprA (Xpr.mk 10 0 [] c5 [] ds6 cd15 zX [])) rfl (nl_xpr (Xpr.mk 10 0 [] c5 [] ds6 cd15 zX []) (.nil _) (.refl _) (.refl _) (.nil _) (.nil _))) (le_trans (le_rd 0 rfl) (le_of h0 rfl ⟨rfl,rfl,trivial⟩ ⟨rfl,trivial⟩ rfl rfl rfl))) rfl
   | (exfalso;omega)
 ·rw [hk16] at hZ;(try dsimp only at hZ);subst hZ
  have r18:=ptake_yes (s:=s) hk16 (by omega) (by decide)
  refine ⟨(Xpr.mk 10 0 [] c5 [] ds6 cd15 zX []),?_⟩
  refine gci Tryz.func120 90 fun E h0=>?_
  repeat' ((first | (refine draw_id 23 ?_;refine draw_le (id:=23) (σ':=⟨[(0, .ref 0 0),(4, .ref 1 0),(6, .iptr [.i 10, .i 0, .str [], .i c5,nilR, .sl 2 (ds6.map pkL), .i (Cnd.op cd15), .i (Cnd.col cd15), .i (Cnd.code cd15), .i (Cnd.lo cd15), .i (Cnd.hi cd15), .sl 6 ((Cnd.kids cd15).map cndL), .i 0, .i 0, .i 0, .i 0, .i 0,nilR,nilR]),(7, .b true)],2,[(0,rdBx s u12),(1,some (.box [.i 0, .i 0, .str [], .i 0,nilR,nilR, .i 0, .i 0, .i 0, .i 0, .i 0,nilR, .i 0, .i 0, .i 0, .i 0, .i 0,nilR,nilR]))]⟩) (le_of h0 rfl ⟨rfl,rfl,rfl,rfl,trivial⟩ ⟨rfl,rfl,trivial⟩ rfl rfl rfl) ?_;refine draw_m (id:=23) ⟨[(4, .ref 1 0),(5, .b true)],2,[(0,rdBx s u17),(1,some (.box [.i 10, .i 0, .str [], .i c5,nilR, .sl 2 (ds6.map pkL), .i (Cnd.op cd15), .i (Cnd.col cd15), .i (Cnd.code cd15), .i (Cnd.lo cd15), .i (Cnd.hi cd15), .sl 6 ((Cnd.kids cd15).map cndL), .i 0, .i 0, .i 0, .i 0, .i 0,nilR,nilR]))]⟩ ?_ ?_) |refine aops_go ?_|refine S1 ?_|refine Z1 ?_|refine Z2 ?_|(refine And.intro ?_ ?_<;>intro h<;>try first|(exfalso;omega)|exact absurd rfl h)|refine Z3 ?_|refine Z4 ?_|intro el hel hbB|intro el hel|intro ex|refine Z5 ?_|(refine free_i ?_ ?_;exact ⟨by kernel_rfl,by decide⟩)|refine allI_c ?_ ?_|exact allI_n|refine allMP_c ?_ ?_|exact allMP_n|(refine many_step ?_ ?_ ?_;kernel_rfl;kernel_rfl) | refine nc [0,2] [0,0] r3 rfl rfl rfl ⟨rfl,rfl,trivial⟩ ?_ | refine nc [0] [0] r9 rfl rfl rfl ⟨rfl,trivial⟩ ?_ | refine nc [0] [0] r13 rfl rfl rfl ⟨rfl,trivial⟩ ?_ | refine nc [0] [0] r18 rfl rfl rfl ⟨rfl,trivial⟩ ?_) <;> (try (conv=>whnf)))
  all_goals first
   | exact le_of h0 rfl ⟨rfl,rfl,trivial⟩ ⟨rfl,rfl,trivial⟩ rfl rfl rfl
   | exact retg_vs (rvs:=[.cell 4 xprT, .tmp 5]) (vs:=[_,_]) ⟨1,_,_,rfl,rfl,inferInstance,rfl,rfl,trivial⟩ rfl rfl (le_trans (le_slot 4 (xprA (Xpr.mk 10 0 [] c5 [] ds6 cd15 zX [])) rfl (nl_xpr (Xpr.mk 10 0 [] c5 [] ds6 cd15 zX []) (.nil _) (.refl _) (.refl _) (.nil _) (.nil _))) (le_of h0 rfl ⟨rfl,rfl,trivial⟩ ⟨rfl,trivial⟩ rfl rfl rfl)) rfl
   | (exfalso;omega)
set_option maxHeartbeats 16000000 in
theorem pparts_mod (s:Sch) (hr:schE s = 0) (t:List UInt8) (ht:t.length ≤ 1000000) (Z:Option (Xpr × List UInt8)) (hZ:Z = parsO s 11 t):∃ z:Xpr,GCall Tryz.prog 120 1 (rdP s t) [.ref 0 0, .i 11] 1 (hpO s Z) (tupO xprA (xprA z) Z):=by
 unfold parsO at hZ
 unfold headO at hZ
 rw [if_neg (by omega),if_neg (by omega)] at hZ;(try dsimp only at hZ)
 rcases hc1:colO s t with _ | ⟨c5,u2⟩
 ·rw [hc1] at hZ;(try dsimp only at hZ);subst hZ
  obtain ⟨v,w,r3⟩:=pcol_no hc1 (by omega)
  refine ⟨(Xpr.mk 11 0 [] v [] [] zX zX []),?_⟩
  refine gci Tryz.func120 90 fun E h0=>?_
  repeat' ((first|refine aops_go ?_|refine S1 ?_|refine Z1 ?_|refine Z2 ?_|(refine And.intro ?_ ?_<;>intro h<;>try first|(exfalso;omega)|exact absurd rfl h)|refine Z3 ?_|refine Z4 ?_|intro el hel hbB|intro el hel|intro ex|refine Z5 ?_|(refine free_i ?_ ?_;exact ⟨by kernel_rfl,by decide⟩)|refine allI_c ?_ ?_|exact allI_n|refine allMP_c ?_ ?_|exact allMP_n|(refine many_step ?_ ?_ ?_;kernel_rfl;kernel_rfl) | refine nc [0] [0] r3 rfl rfl rfl ⟨rfl,trivial⟩ ?_) <;> (try (conv=>whnf)))
  all_goals first
   | exact retg_vs (rvs:=[.cell 4 xprT, .tmp 5]) (vs:=[_,_]) ⟨1,_,_,rfl,rfl,inferInstance,rfl,rfl,trivial⟩ rfl rfl (le_trans (le_slot 4 (xprA (Xpr.mk 11 0 [] v [] [] zX zX [])) rfl (nl_xpr (Xpr.mk 11 0 [] v [] [] zX zX []) (.nil _) (.nil _) (.nil _) (.nil _) (.nil _))) (le_trans (le_rd 0 rfl) (le_of h0 rfl ⟨rfl,rfl,trivial⟩ ⟨rfl,trivial⟩ rfl rfl rfl))) rfl
   | (exfalso;omega)
 rw [hc1] at hZ;(try dsimp only at hZ)
 obtain ⟨r3,l4⟩:=pcol_yes hc1 (by omega)
 rcases hk6:takO bSep u2 with _ | u7
 ·rw [hk6] at hZ;(try dsimp only at hZ);subst hZ
  have r8:=ptake_no (s:=s) hk6 (by omega) (by decide)
  refine ⟨(Xpr.mk 11 0 [] c5 [] [] zX zX []),?_⟩
  refine gci Tryz.func120 90 fun E h0=>?_
  repeat' ((first|refine aops_go ?_|refine S1 ?_|refine Z1 ?_|refine Z2 ?_|(refine And.intro ?_ ?_<;>intro h<;>try first|(exfalso;omega)|exact absurd rfl h)|refine Z3 ?_|refine Z4 ?_|intro el hel hbB|intro el hel|intro ex|refine Z5 ?_|(refine free_i ?_ ?_;exact ⟨by kernel_rfl,by decide⟩)|refine allI_c ?_ ?_|exact allI_n|refine allMP_c ?_ ?_|exact allMP_n|(refine many_step ?_ ?_ ?_;kernel_rfl;kernel_rfl) | refine nc [0] [0] r3 rfl rfl rfl ⟨rfl,trivial⟩ ?_ | refine nc [0] [0] r8 rfl rfl rfl ⟨rfl,trivial⟩ ?_) <;> (try (conv=>whnf)))
  all_goals first
   | exact retg_vs (rvs:=[.cell 4 xprT, .tmp 5]) (vs:=[_,_]) ⟨1,_,_,rfl,rfl,inferInstance,rfl,rfl,trivial⟩ rfl rfl (le_trans (le_slot 4 (xprA (Xpr.mk 11 0 [] c5 [] [] zX zX [])) rfl (nl_xpr (Xpr.mk 11 0 [] c5 [] [] zX zX []) (.nil _) (.nil _) (.nil _) (.nil _) (.nil _))) (le_trans (le_rd 0 rfl) (le_of h0 rfl ⟨rfl,rfl,trivial⟩ ⟨rfl,trivial⟩ rfl rfl rfl))) rfl
   | (exfalso;omega)
 rw [hk6] at hZ;(try dsimp only at hZ)
 have r8:=ptake_yes (s:=s) hk6 (by omega) (by decide)
 have l9:=takO_len hk6
 unfold midO at hZ
 rw [if_pos rfl] at hZ;(try dsimp only at hZ)
 have r12:=pcols_call s u7 (by omega) _ rfl
 rcases hc10:colsO s (u7.length + 1) [] u7 with _ | ⟨cs14,u11⟩
 ·rw [hc10] at hZ r12;(try dsimp only at hZ);subst hZ
  dsimp only [hpO,tupO] at r12
  refine ⟨(Xpr.mk 11 0 [] c5 [] [] zX zX []),?_⟩
  refine gci Tryz.func120 90 fun E h0=>?_
  repeat' ((first|refine aops_go ?_|refine S1 ?_|refine Z1 ?_|refine Z2 ?_|(refine And.intro ?_ ?_<;>intro h<;>try first|(exfalso;omega)|exact absurd rfl h)|refine Z3 ?_|refine Z4 ?_|intro el hel hbB|intro el hel|intro ex|refine Z5 ?_|(refine free_i ?_ ?_;exact ⟨by kernel_rfl,by decide⟩)|refine allI_c ?_ ?_|exact allI_n|refine allMP_c ?_ ?_|exact allMP_n|(refine many_step ?_ ?_ ?_;kernel_rfl;kernel_rfl) | refine nc [0] [0] r3 rfl rfl rfl ⟨rfl,trivial⟩ ?_ | refine nc [0] [0] r8 rfl rfl rfl ⟨rfl,trivial⟩ ?_ | refine nc [0] [0] r12 rfl rfl rfl ⟨rfl,trivial⟩ ?_) <;> (try (conv=>whnf)))
  all_goals first
   | exact retg_vs (rvs:=[.cell 4 xprT, .tmp 5]) (vs:=[_,_]) ⟨1,_,_,rfl,rfl,inferInstance,rfl,rfl,trivial⟩ rfl rfl (le_trans (le_slot 4 (xprA (Xpr.mk 11 0 [] c5 [] [] zX zX [])) rfl (nl_xpr (Xpr.mk 11 0 [] c5 [] [] zX zX []) (.nil _) (.nil _) (.nil _) (.nil _) (.nil _))) (le_trans (le_rd 0 rfl) (le_of h0 rfl ⟨rfl,rfl,trivial⟩ ⟨rfl,trivial⟩ rfl rfl rfl))) rfl
   | (exfalso;omega)
 rw [hc10] at hZ r12;(try dsimp only at hZ)
 dsimp only [hpO,tupO] at r12
 have l13:=colsO_len hc10
 rcases hk15:takO bSep u11 with _ | u16
 ·rw [hk15] at hZ;(try dsimp only at hZ);subst hZ
  have r17:=ptake_no (s:=s) hk15 (by omega) (by decide)
  refine ⟨(Xpr.mk 11 0 [] c5 cs14 [] zX zX []),?_⟩
  refine gci Tryz.func120 90 fun E h0=>?_
  repeat' ((first|refine aops_go ?_|refine S1 ?_|refine Z1 ?_|refine Z2 ?_|(refine And.intro ?_ ?_<;>intro h<;>try first|(exfalso;omega)|exact absurd rfl h)|refine Z3 ?_|refine Z4 ?_|intro el hel hbB|intro el hel|intro ex|refine Z5 ?_|(refine free_i ?_ ?_;exact ⟨by kernel_rfl,by decide⟩)|refine allI_c ?_ ?_|exact allI_n|refine allMP_c ?_ ?_|exact allMP_n|(refine many_step ?_ ?_ ?_;kernel_rfl;kernel_rfl) | refine nc [0] [0] r3 rfl rfl rfl ⟨rfl,trivial⟩ ?_ | refine nc [0] [0] r8 rfl rfl rfl ⟨rfl,trivial⟩ ?_ | refine nc [0] [0] r12 rfl rfl rfl ⟨rfl,trivial⟩ ?_ | refine nc [0] [0] r17 rfl rfl rfl ⟨rfl,trivial⟩ ?_) <;> (try (conv=>whnf)))
  all_goals first
   | exact retg_vs (rvs:=[.cell 4 xprT, .tmp 5]) (vs:=[_,_]) ⟨1,_,_,rfl,rfl,inferInstance,rfl,rfl,trivial⟩ rfl rfl (le_trans (le_slot 4 (xprA (Xpr.mk 11 0 [] c5 cs14 [] zX zX [])) rfl (nl_xpr (Xpr.mk 11 0 [] c5 cs14 [] zX zX []) (.refl _) (.nil _) (.nil _) (.nil _) (.nil _))) (le_trans (le_rd 0 rfl) (le_of h0 rfl ⟨rfl,rfl,trivial⟩ ⟨rfl,trivial⟩ rfl rfl rfl))) rfl
   | (exfalso;omega)
 rw [hk15] at hZ;(try dsimp only at hZ)
 have r17:=ptake_yes (s:=s) hk15 (by omega) (by decide)
 have l18:=takO_len hk15
 rcases hc19:cndO s u16 with _ | ⟨cd23,u20⟩
 ·rw [hc19] at hZ;(try dsimp only at hZ);subst hZ
  obtain ⟨v,w,r21⟩:=pcnd_no hr hc19 (by omega)
  refine ⟨(Xpr.mk 11 0 [] c5 cs14 [] v zX []),?_⟩
  refine gci Tryz.func120 90 fun E h0=>?_
  repeat' ((first | (refine draw_id 23 ?_;refine draw_le (id:=23) (σ':=⟨[(0, .ref 0 0),(4, .ref 1 0),(6, .iptr [.i 11, .i 0, .str [], .i c5, .sl 1 (cs14.map wA),nilR, .i (Cnd.op v), .i (Cnd.col v), .i (Cnd.code v), .i (Cnd.lo v), .i (Cnd.hi v), .sl 6 ((Cnd.kids v).map cndL), .i 0, .i 0, .i 0, .i 0, .i 0,nilR,nilR]),(7, .b false)],2,[(0,rdBx s w),(1,some (.box [.i 0, .i 0, .str [], .i 0,nilR,nilR, .i 0, .i 0, .i 0, .i 0, .i 0,nilR, .i 0, .i 0, .i 0, .i 0, .i 0,nilR,nilR]))]⟩) (le_of h0 rfl ⟨rfl,rfl,rfl,rfl,trivial⟩ ⟨rfl,rfl,trivial⟩ rfl rfl rfl) ?_;refine draw_m (id:=23) ⟨[(4, .ref 1 0),(5, .b false)],2,[(0,rdBx s w),(1,some (.box [.i 11, .i 0, .str [], .i c5, .sl 1 (cs14.map wA),nilR, .i (Cnd.op v), .i (Cnd.col v), .i (Cnd.code v), .i (Cnd.lo v), .i (Cnd.hi v), .sl 6 ((Cnd.kids v).map cndL), .i 0, .i 0, .i 0, .i 0, .i 0,nilR,nilR]))]⟩ ?_ ?_) |refine aops_go ?_|refine S1 ?_|refine Z1 ?_|refine Z2 ?_|(refine And.intro ?_ ?_<;>intro h<;>try first|(exfalso;omega)|exact absurd rfl h)|refine Z3 ?_|refine Z4 ?_|intro el hel hbB|intro el hel|intro ex|refine Z5 ?_|(refine free_i ?_ ?_;exact ⟨by kernel_rfl,by decide⟩)|refine allI_c ?_ ?_|exact allI_n|refine allMP_c ?_ ?_|exact allMP_n|(refine many_step ?_ ?_ ?_;kernel_rfl;kernel_rfl) | refine nc [0] [0] r3 rfl rfl rfl ⟨rfl,trivial⟩ ?_ | refine nc [0] [0] r8 rfl rfl rfl ⟨rfl,trivial⟩ ?_ | refine nc [0] [0] r12 rfl rfl rfl ⟨rfl,trivial⟩ ?_ | refine nc [0] [0] r17 rfl rfl rfl ⟨rfl,trivial⟩ ?_ | refine nc [0] [0] r21 rfl rfl rfl ⟨rfl,trivial⟩ ?_) <;> (try (conv=>whnf)))
  all_goals first
   | exact le_of h0 rfl ⟨rfl,rfl,trivial⟩ ⟨rfl,rfl,trivial⟩ rfl rfl rfl
   | exact retg_vs (rvs:=[.cell 4 xprT, .tmp 5]) (vs:=[_,_]) ⟨1,_,_,rfl,rfl,inferInstance,rfl,rfl,trivial⟩ rfl rfl (le_trans (le_slot 4 (xprA (Xpr.mk 11 0 [] c5 cs14 [] v zX [])) rfl (nl_xpr (Xpr.mk 11 0 [] c5 cs14 [] v zX []) (.refl _) (.nil _) (.refl _) (.nil _) (.nil _))) (le_trans (le_rd 0 rfl) (le_of h0 rfl ⟨rfl,rfl,trivial⟩ ⟨rfl,trivial⟩ rfl rfl rfl))) rfl
   | (exfalso;omega)
 rw [hc19] at hZ;(try dsimp only at hZ)
 obtain ⟨r21,l22⟩:=pcnd_yes hr hc19 (by omega)
 rcases hk24:takO [41] u20 with _ | u25
 ·rw [hk24] at hZ;(try dsimp only at hZ);subst hZ
  have r26:=ptake_no (s:=s) hk24 (by omega) (by decide)
  refine ⟨(Xpr.mk 11 0 [] c5 cs14 [] cd23 zX []),?_⟩
  refine gci Tryz.func120 90 fun E h0=>?_
  repeat' ((first | (refine draw_id 23 ?_;refine draw_le (id:=23) (σ':=⟨[(0, .ref 0 0),(4, .ref 1 0),(6, .iptr [.i 11, .i 0, .str [], .i c5, .sl 1 (cs14.map wA),nilR, .i (Cnd.op cd23), .i (Cnd.col cd23), .i (Cnd.code cd23), .i (Cnd.lo cd23), .i (Cnd.hi cd23), .sl 6 ((Cnd.kids cd23).map cndL), .i 0, .i 0, .i 0, .i 0, .i 0,nilR,nilR]),(7, .b true)],2,[(0,rdBx s u20),(1,some (.box [.i 0, .i 0, .str [], .i 0,nilR,nilR, .i 0, .i 0, .i 0, .i 0, .i 0,nilR, .i 0, .i 0, .i 0, .i 0, .i 0,nilR,nilR]))]⟩) (le_of h0 rfl ⟨rfl,rfl,rfl,rfl,trivial⟩ ⟨rfl,rfl,trivial⟩ rfl rfl rfl) ?_;refine draw_m (id:=23) ⟨[(4, .ref 1 0),(5, .b false)],2,[(0,rdBx s u20),(1,some (.box [.i 11, .i 0, .str [], .i c5, .sl 1 (cs14.map wA),nilR, .i (Cnd.op cd23), .i (Cnd.col cd23), .i (Cnd.code cd23), .i (Cnd.lo cd23), .i (Cnd.hi cd23), .sl 6 ((Cnd.kids cd23).map cndL), .i 0, .i 0, .i 0, .i 0, .i 0,nilR,nilR]))]⟩ ?_ ?_) |refine aops_go ?_|refine S1 ?_|refine Z1 ?_|refine Z2 ?_|(refine And.intro ?_ ?_<;>intro h<;>try first|(exfalso;omega)|exact absurd rfl h)|refine Z3 ?_|refine Z4 ?_|intro el hel hbB|intro el hel|intro ex|refine Z5 ?_|(refine free_i ?_ ?_;exact ⟨by kernel_rfl,by decide⟩)|refine allI_c ?_ ?_|exact allI_n|refine allMP_c ?_ ?_|exact allMP_n|(refine many_step ?_ ?_ ?_;kernel_rfl;kernel_rfl) | refine nc [0] [0] r3 rfl rfl rfl ⟨rfl,trivial⟩ ?_ | refine nc [0] [0] r8 rfl rfl rfl ⟨rfl,trivial⟩ ?_ | refine nc [0] [0] r12 rfl rfl rfl ⟨rfl,trivial⟩ ?_ | refine nc [0] [0] r17 rfl rfl rfl ⟨rfl,trivial⟩ ?_ | refine nc [0] [0] r21 rfl rfl rfl ⟨rfl,trivial⟩ ?_ | refine nc [0] [0] r26 rfl rfl rfl ⟨rfl,trivial⟩ ?_) <;> (try (conv=>whnf)))
  all_goals first
   | exact le_of h0 rfl ⟨rfl,rfl,trivial⟩ ⟨rfl,rfl,trivial⟩ rfl rfl rfl
   | exact retg_vs (rvs:=[.cell 4 xprT, .tmp 5]) (vs:=[_,_]) ⟨1,_,_,rfl,rfl,inferInstance,rfl,rfl,trivial⟩ rfl rfl (le_trans (le_slot 4 (xprA (Xpr.mk 11 0 [] c5 cs14 [] cd23 zX [])) rfl (nl_xpr (Xpr.mk 11 0 [] c5 cs14 [] cd23 zX []) (.refl _) (.nil _) (.refl _) (.nil _) (.nil _))) (le_trans (le_rd 0 rfl) (le_of h0 rfl ⟨rfl,rfl,trivial⟩ ⟨rfl,trivial⟩ rfl rfl rfl))) rfl
   | (exfalso;omega)
 ·rw [hk24] at hZ;(try dsimp only at hZ);subst hZ
  have r26:=ptake_yes (s:=s) hk24 (by omega) (by decide)
  refine ⟨(Xpr.mk 11 0 [] c5 cs14 [] cd23 zX []),?_⟩
  refine gci Tryz.func120 90 fun E h0=>?_
  repeat' ((first | (refine draw_id 23 ?_;refine draw_le (id:=23) (σ':=⟨[(0, .ref 0 0),(4, .ref 1 0),(6, .iptr [.i 11, .i 0, .str [], .i c5, .sl 1 (cs14.map wA),nilR, .i (Cnd.op cd23), .i (Cnd.col cd23), .i (Cnd.code cd23), .i (Cnd.lo cd23), .i (Cnd.hi cd23), .sl 6 ((Cnd.kids cd23).map cndL), .i 0, .i 0, .i 0, .i 0, .i 0,nilR,nilR]),(7, .b true)],2,[(0,rdBx s u20),(1,some (.box [.i 0, .i 0, .str [], .i 0,nilR,nilR, .i 0, .i 0, .i 0, .i 0, .i 0,nilR, .i 0, .i 0, .i 0, .i 0, .i 0,nilR,nilR]))]⟩) (le_of h0 rfl ⟨rfl,rfl,rfl,rfl,trivial⟩ ⟨rfl,rfl,trivial⟩ rfl rfl rfl) ?_;refine draw_m (id:=23) ⟨[(4, .ref 1 0),(5, .b true)],2,[(0,rdBx s u25),(1,some (.box [.i 11, .i 0, .str [], .i c5, .sl 1 (cs14.map wA),nilR, .i (Cnd.op cd23), .i (Cnd.col cd23), .i (Cnd.code cd23), .i (Cnd.lo cd23), .i (Cnd.hi cd23), .sl 6 ((Cnd.kids cd23).map cndL), .i 0, .i 0, .i 0, .i 0, .i 0,nilR,nilR]))]⟩ ?_ ?_) |refine aops_go ?_|refine S1 ?_|refine Z1 ?_|refine Z2 ?_|(refine And.intro ?_ ?_<;>intro h<;>try first|(exfalso;omega)|exact absurd rfl h)|refine Z3 ?_|refine Z4 ?_|intro el hel hbB|intro el hel|intro ex|refine Z5 ?_|(refine free_i ?_ ?_;exact ⟨by kernel_rfl,by decide⟩)|refine allI_c ?_ ?_|exact allI_n|refine allMP_c ?_ ?_|exact allMP_n|(refine many_step ?_ ?_ ?_;kernel_rfl;kernel_rfl) | refine nc [0] [0] r3 rfl rfl rfl ⟨rfl,trivial⟩ ?_ | refine nc [0] [0] r8 rfl rfl rfl ⟨rfl,trivial⟩ ?_ | refine nc [0] [0] r12 rfl rfl rfl ⟨rfl,trivial⟩ ?_ | refine nc [0] [0] r17 rfl rfl rfl ⟨rfl,trivial⟩ ?_ | refine nc [0] [0] r21 rfl rfl rfl ⟨rfl,trivial⟩ ?_ | refine nc [0] [0] r26 rfl rfl rfl ⟨rfl,trivial⟩ ?_) <;> (try (conv=>whnf)))
  all_goals first
   | exact le_of h0 rfl ⟨rfl,rfl,trivial⟩ ⟨rfl,rfl,trivial⟩ rfl rfl rfl
   | exact retg_vs (rvs:=[.cell 4 xprT, .tmp 5]) (vs:=[_,_]) ⟨1,_,_,rfl,rfl,inferInstance,rfl,rfl,trivial⟩ rfl rfl (le_trans (le_slot 4 (xprA (Xpr.mk 11 0 [] c5 cs14 [] cd23 zX [])) rfl (nl_xpr (Xpr.mk 11 0 [] c5 cs14 [] cd23 zX []) (.refl _) (.nil _) (.refl _) (.nil _) (.nil _))) (le_of h0 rfl ⟨rfl,rfl,trivial⟩ ⟨rfl,trivial⟩ rfl rfl rfl)) rfl
   | (exfalso;omega)
set_option maxHeartbeats 16000000 in
theorem pparts_cur (s:Sch) (hr:schE s = 0) (t:List UInt8) (ht:t.length ≤ 1000000) (Z:Option (Xpr × List UInt8)) (hZ:Z = parsO s 12 t):∃ z:Xpr,GCall Tryz.prog 120 1 (rdP s t) [.ref 0 0, .i 12] 1 (hpO s Z) (tupO xprA (xprA z) Z):=by
 unfold parsO at hZ
 unfold headO at hZ
 rw [if_neg (by omega),if_neg (by omega)] at hZ;(try dsimp only at hZ)
 rcases hc1:colO s t with _ | ⟨c5,u2⟩
 ·rw [hc1] at hZ;(try dsimp only at hZ);subst hZ
  obtain ⟨v,w,r3⟩:=pcol_no hc1 (by omega)
  refine ⟨(Xpr.mk 12 0 [] v [] [] zX zX []),?_⟩
  refine gci Tryz.func120 90 fun E h0=>?_
  repeat' ((first|refine aops_go ?_|refine S1 ?_|refine Z1 ?_|refine Z2 ?_|(refine And.intro ?_ ?_<;>intro h<;>try first|(exfalso;omega)|exact absurd rfl h)|refine Z3 ?_|refine Z4 ?_|intro el hel hbB|intro el hel|intro ex|refine Z5 ?_|(refine free_i ?_ ?_;exact ⟨by kernel_rfl,by decide⟩)|refine allI_c ?_ ?_|exact allI_n|refine allMP_c ?_ ?_|exact allMP_n|(refine many_step ?_ ?_ ?_;kernel_rfl;kernel_rfl) | refine nc [0] [0] r3 rfl rfl rfl ⟨rfl,trivial⟩ ?_) <;> (try (conv=>whnf)))
  all_goals first
   | exact retg_vs (rvs:=[.cell 4 xprT, .tmp 5]) (vs:=[_,_]) ⟨1,_,_,rfl,rfl,inferInstance,rfl,rfl,trivial⟩ rfl rfl (le_trans (le_slot 4 (xprA (Xpr.mk 12 0 [] v [] [] zX zX [])) rfl (nl_xpr (Xpr.mk 12 0 [] v [] [] zX zX []) (.nil _) (.nil _) (.nil _) (.nil _) (.nil _))) (le_trans (le_rd 0 rfl) (le_of h0 rfl ⟨rfl,rfl,trivial⟩ ⟨rfl,trivial⟩ rfl rfl rfl))) rfl
   | (exfalso;omega)
 rw [hc1] at hZ;(try dsimp only at hZ)
 obtain ⟨r3,l4⟩:=pcol_yes hc1 (by omega)
 rcases hk6:takO bSep u2 with _ | u7
 ·rw [hk6] at hZ;(try dsimp only at hZ);subst hZ
  have r8:=ptake_no (s:=s) hk6 (by omega) (by decide)
  refine ⟨(Xpr.mk 12 0 [] c5 [] [] zX zX []),?_⟩
  refine gci Tryz.func120 90 fun E h0=>?_
  repeat' ((first|refine aops_go ?_|refine S1 ?_|refine Z1 ?_|refine Z2 ?_|(refine And.intro ?_ ?_<;>intro h<;>try first|(exfalso;omega)|exact absurd rfl h)|refine Z3 ?_|refine Z4 ?_|intro el hel hbB|intro el hel|intro ex|refine Z5 ?_|(refine free_i ?_ ?_;exact ⟨by kernel_rfl,by decide⟩)|refine allI_c ?_ ?_|exact allI_n|refine allMP_c ?_ ?_|exact allMP_n|(refine many_step ?_ ?_ ?_;kernel_rfl;kernel_rfl) | refine nc [0] [0] r3 rfl rfl rfl ⟨rfl,trivial⟩ ?_ | refine nc [0] [0] r8 rfl rfl rfl ⟨rfl,trivial⟩ ?_) <;> (try (conv=>whnf)))
  all_goals first
   | exact retg_vs (rvs:=[.cell 4 xprT, .tmp 5]) (vs:=[_,_]) ⟨1,_,_,rfl,rfl,inferInstance,rfl,rfl,trivial⟩ rfl rfl (le_trans (le_slot 4 (xprA (Xpr.mk 12 0 [] c5 [] [] zX zX [])) rfl (nl_xpr (Xpr.mk 12 0 [] c5 [] [] zX zX []) (.nil _) (.nil _) (.nil _) (.nil _) (.nil _))) (le_trans (le_rd 0 rfl) (le_of h0 rfl ⟨rfl,rfl,trivial⟩ ⟨rfl,trivial⟩ rfl rfl rfl))) rfl
   | (exfalso;omega)
 rw [hk6] at hZ;(try dsimp only at hZ)
 have r8:=ptake_yes (s:=s) hk6 (by omega) (by decide)
 have l9:=takO_len hk6
 unfold midO at hZ
 rw [if_neg (by decide),if_pos rfl] at hZ;(try dsimp only at hZ)
 rcases hc10:cndO s u7 with _ | ⟨ev14,u11⟩
 ·rw [hc10] at hZ;(try dsimp only at hZ);subst hZ
  obtain ⟨v,w,r12⟩:=pcnd_no hr hc10 (by omega)
  refine ⟨(Xpr.mk 12 0 [] c5 [] [] zX v []),?_⟩
  refine gci Tryz.func120 90 fun E h0=>?_
  repeat' ((first|refine aops_go ?_|refine S1 ?_|refine Z1 ?_|refine Z2 ?_|(refine And.intro ?_ ?_<;>intro h<;>try first|(exfalso;omega)|exact absurd rfl h)|refine Z3 ?_|refine Z4 ?_|intro el hel hbB|intro el hel|intro ex|refine Z5 ?_|(refine free_i ?_ ?_;exact ⟨by kernel_rfl,by decide⟩)|refine allI_c ?_ ?_|exact allI_n|refine allMP_c ?_ ?_|exact allMP_n|(refine many_step ?_ ?_ ?_;kernel_rfl;kernel_rfl) | refine nc [0] [0] r3 rfl rfl rfl ⟨rfl,trivial⟩ ?_ | refine nc [0] [0] r8 rfl rfl rfl ⟨rfl,trivial⟩ ?_ | refine nc [0] [0] r12 rfl rfl rfl ⟨rfl,trivial⟩ ?_) <;> (try (conv=>whnf)))
  all_goals first
   | exact retg_vs (rvs:=[.cell 4 xprT, .tmp 5]) (vs:=[_,_]) ⟨1,_,_,rfl,rfl,inferInstance,rfl,rfl,trivial⟩ rfl rfl (le_trans (le_slot 4 (xprA (Xpr.mk 12 0 [] c5 [] [] zX v [])) rfl (nl_xpr (Xpr.mk 12 0 [] c5 [] [] zX v []) (.nil _) (.nil _) (.nil _) (.refl _) (.nil _))) (le_trans (le_rd 0 rfl) (le_of h0 rfl ⟨rfl,rfl,trivial⟩ ⟨rfl,trivial⟩ rfl rfl rfl))) rfl
   | (exfalso;omega)
 rw [hc10] at hZ;(try dsimp only at hZ)
 obtain ⟨r12,l13⟩:=pcnd_yes hr hc10 (by omega)
 rcases hk15:takO bSep u11 with _ | u16
 ·rw [hk15] at hZ;(try dsimp only at hZ);subst hZ
  have r17:=ptake_no (s:=s) hk15 (by omega) (by decide)
  refine ⟨(Xpr.mk 12 0 [] c5 [] [] zX ev14 []),?_⟩
  refine gci Tryz.func120 90 fun E h0=>?_
  repeat' ((first|refine aops_go ?_|refine S1 ?_|refine Z1 ?_|refine Z2 ?_|(refine And.intro ?_ ?_<;>intro h<;>try first|(exfalso;omega)|exact absurd rfl h)|refine Z3 ?_|refine Z4 ?_|intro el hel hbB|intro el hel|intro ex|refine Z5 ?_|(refine free_i ?_ ?_;exact ⟨by kernel_rfl,by decide⟩)|refine allI_c ?_ ?_|exact allI_n|refine allMP_c ?_ ?_|exact allMP_n|(refine many_step ?_ ?_ ?_;kernel_rfl;kernel_rfl) | refine nc [0] [0] r3 rfl rfl rfl ⟨rfl,trivial⟩ ?_ | refine nc [0] [0] r8 rfl rfl rfl ⟨rfl,trivial⟩ ?_ | refine nc [0] [0] r12 rfl rfl rfl ⟨rfl,trivial⟩ ?_ | refine nc [0] [0] r17 rfl rfl rfl ⟨rfl,trivial⟩ ?_) <;> (try (conv=>whnf)))
  all_goals first
   | exact retg_vs (rvs:=[.cell 4 xprT, .tmp 5]) (vs:=[_,_]) ⟨1,_,_,rfl,rfl,inferInstance,rfl,rfl,trivial⟩ rfl rfl (le_trans (le_slot 4 (xprA (Xpr.mk 12 0 [] c5 [] [] zX ev14 [])) rfl (nl_xpr (Xpr.mk 12 0 [] c5 [] [] zX ev14 []) (.nil _) (.nil _) (.nil _) (.refl _) (.nil _))) (le_trans (le_rd 0 rfl) (le_of h0 rfl ⟨rfl,rfl,trivial⟩ ⟨rfl,trivial⟩ rfl rfl rfl))) rfl
   | (exfalso;omega)
 rw [hk15] at hZ;(try dsimp only at hZ)
 have r17:=ptake_yes (s:=s) hk15 (by omega) (by decide)
 have l18:=takO_len hk15
 rcases hc19:cndO s u16 with _ | ⟨cd23,u20⟩
 ·rw [hc19] at hZ;(try dsimp only at hZ);subst hZ
  obtain ⟨v,w,r21⟩:=pcnd_no hr hc19 (by omega)
  refine ⟨(Xpr.mk 12 0 [] c5 [] [] v ev14 []),?_⟩
  refine gci Tryz.func120 90 fun E h0=>?_
  repeat' ((first | (refine draw_id 23 ?_;refine draw_le (id:=23) (σ':=⟨[(0, .ref 0 0),(4, .ref 1 0),(6, .iptr [.i 12, .i 0, .str [], .i c5,nilR,nilR, .i (Cnd.op v), .i (Cnd.col v), .i (Cnd.code v), .i (Cnd.lo v), .i (Cnd.hi v), .sl 6 ((Cnd.kids v).map cndL), .i (Cnd.op ev14), .i (Cnd.col ev14), .i (Cnd.code ev14), .i (Cnd.lo ev14), .i (Cnd.hi ev14), .sl 6 ((Cnd.kids ev14).map cndL),nilR]),(7, .b false)],2,[(0,rdBx s w),(1,some (.box [.i 0, .i 0, .str [], .i 0,nilR,nilR, .i 0, .i 0, .i 0, .i 0, .i 0,nilR, .i 0, .i 0, .i 0, .i 0, .i 0,nilR,nilR]))]⟩) (le_of h0 rfl ⟨rfl,rfl,rfl,rfl,trivial⟩ ⟨rfl,rfl,trivial⟩ rfl rfl rfl) ?_;refine draw_m (id:=23) ⟨[(4, .ref 1 0),(5, .b false)],2,[(0,rdBx s w),(1,some (.box [.i 12, .i 0, .str [], .i c5,nilR,nilR, .i (Cnd.op v), .i (Cnd.col v), .i (Cnd.code v), .i (Cnd.lo v), .i (Cnd.hi v), .sl 6 ((Cnd.kids v).map cndL), .i (Cnd.op ev14), .i (Cnd.col ev14), .i (Cnd.code ev14), .i (Cnd.lo ev14), .i (Cnd.hi ev14), .sl 6 ((Cnd.kids ev14).map cndL),nilR]))]⟩ ?_ ?_) |refine aops_go ?_|refine S1 ?_|refine Z1 ?_|refine Z2 ?_|(refine And.intro ?_ ?_<;>intro h<;>try first|(exfalso;omega)|exact absurd rfl h)|refine Z3 ?_|refine Z4 ?_|intro el hel hbB|intro el hel|intro ex|refine Z5 ?_|(refine free_i ?_ ?_;exact ⟨by kernel_rfl,by decide⟩)|refine allI_c ?_ ?_|exact allI_n|refine allMP_c ?_ ?_|exact allMP_n|(refine many_step ?_ ?_ ?_;kernel_rfl;kernel_rfl) | refine nc [0] [0] r3 rfl rfl rfl ⟨rfl,trivial⟩ ?_ | refine nc [0] [0] r8 rfl rfl rfl ⟨rfl,trivial⟩ ?_ | refine nc [0] [0] r12 rfl rfl rfl ⟨rfl,trivial⟩ ?_ | refine nc [0] [0] r17 rfl rfl rfl ⟨rfl,trivial⟩ ?_ | refine nc [0] [0] r21 rfl rfl rfl ⟨rfl,trivial⟩ ?_) <;> (try (conv=>whnf)))
  all_goals first
   | exact le_of h0 rfl ⟨rfl,rfl,trivial⟩ ⟨rfl,rfl,trivial⟩ rfl rfl rfl
   | exact retg_vs (rvs:=[.cell 4 xprT, .tmp 5]) (vs:=[_,_]) ⟨1,_,_,rfl,rfl,inferInstance,rfl,rfl,trivial⟩ rfl rfl (le_trans (le_slot 4 (xprA (Xpr.mk 12 0 [] c5 [] [] v ev14 [])) rfl (nl_xpr (Xpr.mk 12 0 [] c5 [] [] v ev14 []) (.nil _) (.nil _) (.refl _) (.refl _) (.nil _))) (le_trans (le_rd 0 rfl) (le_of h0 rfl ⟨rfl,rfl,trivial⟩ ⟨rfl,trivial⟩ rfl rfl rfl))) rfl
   | (exfalso;omega)
 rw [hc19] at hZ;(try dsimp only at hZ)
 obtain ⟨r21,l22⟩:=pcnd_yes hr hc19 (by omega)
 rcases hk24:takO [41] u20 with _ | u25
 ·rw [hk24] at hZ;(try dsimp only at hZ);subst hZ
  have r26:=ptake_no (s:=s) hk24 (by omega) (by decide)
  refine ⟨(Xpr.mk 12 0 [] c5 [] [] cd23 ev14 []),?_⟩
  refine gci Tryz.func120 90 fun E h0=>?_
  repeat' ((first | (refine draw_id 23 ?_;refine draw_le (id:=23) (σ':=⟨[(0, .ref 0 0),(4, .ref 1 0),(6, .iptr [.i 12, .i 0, .str [], .i c5,nilR,nilR, .i (Cnd.op cd23), .i (Cnd.col cd23), .i (Cnd.code cd23), .i (Cnd.lo cd23), .i (Cnd.hi cd23), .sl 6 ((Cnd.kids cd23).map cndL), .i (Cnd.op ev14), .i (Cnd.col ev14), .i (Cnd.code ev14), .i (Cnd.lo ev14), .i (Cnd.hi ev14), .sl 6 ((Cnd.kids ev14).map cndL),nilR]),(7, .b true)],2,[(0,rdBx s u20),(1,some (.box [.i 0, .i 0, .str [], .i 0,nilR,nilR, .i 0, .i 0, .i 0, .i 0, .i 0,nilR, .i 0, .i 0, .i 0, .i 0, .i 0,nilR,nilR]))]⟩) (le_of h0 rfl ⟨rfl,rfl,rfl,rfl,trivial⟩ ⟨rfl,rfl,trivial⟩ rfl rfl rfl) ?_;refine draw_m (id:=23) ⟨[(4, .ref 1 0),(5, .b false)],2,[(0,rdBx s u20),(1,some (.box [.i 12, .i 0, .str [], .i c5,nilR,nilR, .i (Cnd.op cd23), .i (Cnd.col cd23), .i (Cnd.code cd23), .i (Cnd.lo cd23), .i (Cnd.hi cd23), .sl 6 ((Cnd.kids cd23).map cndL), .i (Cnd.op ev14), .i (Cnd.col ev14), .i (Cnd.code ev14), .i (Cnd.lo ev14), .i (Cnd.hi ev14), .sl 6 ((Cnd.kids ev14).map cndL),nilR]))]⟩ ?_ ?_) |refine aops_go ?_|refine S1 ?_|refine Z1 ?_|refine Z2 ?_|(refine And.intro ?_ ?_<;>intro h<;>try first|(exfalso;omega)|exact absurd rfl h)|refine Z3 ?_|refine Z4 ?_|intro el hel hbB|intro el hel|intro ex|refine Z5 ?_|(refine free_i ?_ ?_;exact ⟨by kernel_rfl,by decide⟩)|refine allI_c ?_ ?_|exact allI_n|refine allMP_c ?_ ?_|exact allMP_n|(refine many_step ?_ ?_ ?_;kernel_rfl;kernel_rfl) | refine nc [0] [0] r3 rfl rfl rfl ⟨rfl,trivial⟩ ?_ | refine nc [0] [0] r8 rfl rfl rfl ⟨rfl,trivial⟩ ?_ | refine nc [0] [0] r12 rfl rfl rfl ⟨rfl,trivial⟩ ?_ | refine nc [0] [0] r17 rfl rfl rfl ⟨rfl,trivial⟩ ?_ | refine nc [0] [0] r21 rfl rfl rfl ⟨rfl,trivial⟩ ?_ | refine nc [0] [0] r26 rfl rfl rfl ⟨rfl,trivial⟩ ?_) <;> (try (conv=>whnf)))
  all_goals first
   | exact le_of h0 rfl ⟨rfl,rfl,trivial⟩ ⟨rfl,rfl,trivial⟩ rfl rfl rfl
   | exact retg_vs (rvs:=[.cell 4 xprT, .tmp 5]) (vs:=[_,_]) ⟨1,_,_,rfl,rfl,inferInstance,rfl,rfl,trivial⟩ rfl rfl (le_trans (le_slot 4 (xprA (Xpr.mk 12 0 [] c5 [] [] cd23 ev14 [])) rfl (nl_xpr (Xpr.mk 12 0 [] c5 [] [] cd23 ev14 []) (.nil _) (.nil _) (.refl _) (.refl _) (.nil _))) (le_trans (le_rd 0 rfl) (le_of h0 rfl ⟨rfl,rfl,trivial⟩ ⟨rfl,trivial⟩ rfl rfl rfl))) rfl
   | (exfalso;omega)
 ·rw [hk24] at hZ;(try dsimp only at hZ);subst hZ
  have r26:=ptake_yes (s:=s) hk24 (by omega) (by decide)
  refine ⟨(Xpr.mk 12 0 [] c5 [] [] cd23 ev14 []),?_⟩
  refine gci Tryz.func120 90 fun E h0=>?_
  repeat' ((first | (refine draw_id 23 ?_;refine draw_le (id:=23) (σ':=⟨[(0, .ref 0 0),(4, .ref 1 0),(6, .iptr [.i 12, .i 0, .str [], .i c5,nilR,nilR, .i (Cnd.op cd23), .i (Cnd.col cd23), .i (Cnd.code cd23), .i (Cnd.lo cd23), .i (Cnd.hi cd23), .sl 6 ((Cnd.kids cd23).map cndL), .i (Cnd.op ev14), .i (Cnd.col ev14), .i (Cnd.code ev14), .i (Cnd.lo ev14), .i (Cnd.hi ev14), .sl 6 ((Cnd.kids ev14).map cndL),nilR]),(7, .b true)],2,[(0,rdBx s u20),(1,some (.box [.i 0, .i 0, .str [], .i 0,nilR,nilR, .i 0, .i 0, .i 0, .i 0, .i 0,nilR, .i 0, .i 0, .i 0, .i 0, .i 0,nilR,nilR]))]⟩) (le_of h0 rfl ⟨rfl,rfl,rfl,rfl,trivial⟩ ⟨rfl,rfl,trivial⟩ rfl rfl rfl) ?_;refine draw_m (id:=23) ⟨[(4, .ref 1 0),(5, .b true)],2,[(0,rdBx s u25),(1,some (.box [.i 12, .i 0, .str [], .i c5,nilR,nilR, .i (Cnd.op cd23), .i (Cnd.col cd23), .i (Cnd.code cd23), .i (Cnd.lo cd23), .i (Cnd.hi cd23), .sl 6 ((Cnd.kids cd23).map cndL), .i (Cnd.op ev14), .i (Cnd.col ev14), .i (Cnd.code ev14), .i (Cnd.lo ev14), .i (Cnd.hi ev14), .sl 6 ((Cnd.kids ev14).map cndL),nilR]))]⟩ ?_ ?_) |refine aops_go ?_|refine S1 ?_|refine Z1 ?_|refine Z2 ?_|(refine And.intro ?_ ?_<;>intro h<;>try first|(exfalso;omega)|exact absurd rfl h)|refine Z3 ?_|refine Z4 ?_|intro el hel hbB|intro el hel|intro ex|refine Z5 ?_|(refine free_i ?_ ?_;exact ⟨by kernel_rfl,by decide⟩)|refine allI_c ?_ ?_|exact allI_n|refine allMP_c ?_ ?_|exact allMP_n|(refine many_step ?_ ?_ ?_;kernel_rfl;kernel_rfl) | refine nc [0] [0] r3 rfl rfl rfl ⟨rfl,trivial⟩ ?_ | refine nc [0] [0] r8 rfl rfl rfl ⟨rfl,trivial⟩ ?_ | refine nc [0] [0] r12 rfl rfl rfl ⟨rfl,trivial⟩ ?_ | refine nc [0] [0] r17 rfl rfl rfl ⟨rfl,trivial⟩ ?_ | refine nc [0] [0] r21 rfl rfl rfl ⟨rfl,trivial⟩ ?_ | refine nc [0] [0] r26 rfl rfl rfl ⟨rfl,trivial⟩ ?_) <;> (try (conv=>whnf)))
  all_goals first
   | exact le_of h0 rfl ⟨rfl,rfl,trivial⟩ ⟨rfl,rfl,trivial⟩ rfl rfl rfl
   | exact retg_vs (rvs:=[.cell 4 xprT, .tmp 5]) (vs:=[_,_]) ⟨1,_,_,rfl,rfl,inferInstance,rfl,rfl,trivial⟩ rfl rfl (le_trans (le_slot 4 (xprA (Xpr.mk 12 0 [] c5 [] [] cd23 ev14 [])) rfl (nl_xpr (Xpr.mk 12 0 [] c5 [] [] cd23 ev14 []) (.nil _) (.nil _) (.refl _) (.refl _) (.nil _))) (le_of h0 rfl ⟨rfl,rfl,trivial⟩ ⟨rfl,trivial⟩ rfl rfl rfl)) rfl
   | (exfalso;omega)
set_option maxHeartbeats 16000000 in
theorem pparts_his (s:Sch) (hr:schE s = 0) (t:List UInt8) (ht:t.length ≤ 1000000) (Z:Option (Xpr × List UInt8)) (hZ:Z = parsO s 13 t):∃ z:Xpr,GCall Tryz.prog 120 1 (rdP s t) [.ref 0 0, .i 13] 1 (hpO s Z) (tupO xprA (xprA z) Z):=by
 unfold parsO at hZ
 unfold headO at hZ
 rw [if_neg (by omega),if_neg (by omega)] at hZ;(try dsimp only at hZ)
 rcases hc1:colO s t with _ | ⟨c5,u2⟩
 ·rw [hc1] at hZ;(try dsimp only at hZ);subst hZ
  obtain ⟨v,w,r3⟩:=pcol_no hc1 (by omega)
  refine ⟨(Xpr.mk 13 0 [] v [] [] zX zX []),?_⟩
  refine gci Tryz.func120 90 fun E h0=>?_
  repeat' ((first|refine aops_go ?_|refine S1 ?_|refine Z1 ?_|refine Z2 ?_|(refine And.intro ?_ ?_<;>intro h<;>try first|(exfalso;omega)|exact absurd rfl h)|refine Z3 ?_|refine Z4 ?_|intro el hel hbB|intro el hel|intro ex|refine Z5 ?_|(refine free_i ?_ ?_;exact ⟨by kernel_rfl,by decide⟩)|refine allI_c ?_ ?_|exact allI_n|refine allMP_c ?_ ?_|exact allMP_n|(refine many_step ?_ ?_ ?_;kernel_rfl;kernel_rfl) | refine nc [0] [0] r3 rfl rfl rfl ⟨rfl,trivial⟩ ?_) <;> (try (conv=>whnf)))
  all_goals first
   | exact retg_vs (rvs:=[.cell 4 xprT, .tmp 5]) (vs:=[_,_]) ⟨1,_,_,rfl,rfl,inferInstance,rfl,rfl,trivial⟩ rfl rfl (le_trans (le_slot 4 (xprA (Xpr.mk 13 0 [] v [] [] zX zX [])) rfl (nl_xpr (Xpr.mk 13 0 [] v [] [] zX zX []) (.nil _) (.nil _) (.nil _) (.nil _) (.nil _))) (le_trans (le_rd 0 rfl) (le_of h0 rfl ⟨rfl,rfl,trivial⟩ ⟨rfl,trivial⟩ rfl rfl rfl))) rfl
   | (exfalso;omega)
 rw [hc1] at hZ;(try dsimp only at hZ)
 obtain ⟨r3,l4⟩:=pcol_yes hc1 (by omega)
 rcases hk6:takO bSep u2 with _ | u7
 ·rw [hk6] at hZ;(try dsimp only at hZ);subst hZ
  have r8:=ptake_no (s:=s) hk6 (by omega) (by decide)
  refine ⟨(Xpr.mk 13 0 [] c5 [] [] zX zX []),?_⟩
  refine gci Tryz.func120 90 fun E h0=>?_
  repeat' ((first|refine aops_go ?_|refine S1 ?_|refine Z1 ?_|refine Z2 ?_|(refine And.intro ?_ ?_<;>intro h<;>try first|(exfalso;omega)|exact absurd rfl h)|refine Z3 ?_|refine Z4 ?_|intro el hel hbB|intro el hel|intro ex|refine Z5 ?_|(refine free_i ?_ ?_;exact ⟨by kernel_rfl,by decide⟩)|refine allI_c ?_ ?_|exact allI_n|refine allMP_c ?_ ?_|exact allMP_n|(refine many_step ?_ ?_ ?_;kernel_rfl;kernel_rfl) | refine nc [0] [0] r3 rfl rfl rfl ⟨rfl,trivial⟩ ?_ | refine nc [0] [0] r8 rfl rfl rfl ⟨rfl,trivial⟩ ?_) <;> (try (conv=>whnf)))
  all_goals first
   | exact retg_vs (rvs:=[.cell 4 xprT, .tmp 5]) (vs:=[_,_]) ⟨1,_,_,rfl,rfl,inferInstance,rfl,rfl,trivial⟩ rfl rfl (le_trans (le_slot 4 (xprA (Xpr.mk 13 0 [] c5 [] [] zX zX [])) rfl (nl_xpr (Xpr.mk 13 0 [] c5 [] [] zX zX []) (.nil _) (.nil _) (.nil _) (.nil _) (.nil _))) (le_trans (le_rd 0 rfl) (le_of h0 rfl ⟨rfl,rfl,trivial⟩ ⟨rfl,trivial⟩ rfl rfl rfl))) rfl
   | (exfalso;omega)
 rw [hk6] at hZ;(try dsimp only at hZ)
 have r8:=ptake_yes (s:=s) hk6 (by omega) (by decide)
 have l9:=takO_len hk6
 unfold midO at hZ
 rw [if_neg (by decide),if_neg (by decide),if_pos rfl] at hZ;(try dsimp only at hZ)
 rcases hc10:numO u7 with _ | ⟨n14,u11⟩
 ·rw [hc10] at hZ;(try dsimp only at hZ);subst hZ
  obtain ⟨v,w,r12⟩:=pnum_no (s:=s) hc10 (by omega)
  refine ⟨(Xpr.mk 13 v [] c5 [] [] zX zX []),?_⟩
  refine gci Tryz.func120 90 fun E h0=>?_
  repeat' ((first|refine aops_go ?_|refine S1 ?_|refine Z1 ?_|refine Z2 ?_|(refine And.intro ?_ ?_<;>intro h<;>try first|(exfalso;omega)|exact absurd rfl h)|refine Z3 ?_|refine Z4 ?_|intro el hel hbB|intro el hel|intro ex|refine Z5 ?_|(refine free_i ?_ ?_;exact ⟨by kernel_rfl,by decide⟩)|refine allI_c ?_ ?_|exact allI_n|refine allMP_c ?_ ?_|exact allMP_n|(refine many_step ?_ ?_ ?_;kernel_rfl;kernel_rfl) | refine nc [0] [0] r3 rfl rfl rfl ⟨rfl,trivial⟩ ?_ | refine nc [0] [0] r8 rfl rfl rfl ⟨rfl,trivial⟩ ?_ | refine nc [0] [0] r12 rfl rfl rfl ⟨rfl,trivial⟩ ?_) <;> (try (conv=>whnf)))
  all_goals first
   | exact retg_vs (rvs:=[.cell 4 xprT, .tmp 5]) (vs:=[_,_]) ⟨1,_,_,rfl,rfl,inferInstance,rfl,rfl,trivial⟩ rfl rfl (le_trans (le_slot 4 (xprA (Xpr.mk 13 v [] c5 [] [] zX zX [])) rfl (nl_xpr (Xpr.mk 13 v [] c5 [] [] zX zX []) (.nil _) (.nil _) (.nil _) (.nil _) (.nil _))) (le_trans (le_rd 0 rfl) (le_of h0 rfl ⟨rfl,rfl,trivial⟩ ⟨rfl,trivial⟩ rfl rfl rfl))) rfl
   | (exfalso;omega)
 rw [hc10] at hZ;(try dsimp only at hZ)
 obtain ⟨r12,l13⟩:=pnum_yes (s:=s) hc10 (by omega)
 rcases hk15:takO bSep u11 with _ | u16
 ·rw [hk15] at hZ;(try dsimp only at hZ);subst hZ
  have r17:=ptake_no (s:=s) hk15 (by omega) (by decide)
  refine ⟨(Xpr.mk 13 n14 [] c5 [] [] zX zX []),?_⟩
  refine gci Tryz.func120 90 fun E h0=>?_
  repeat' ((first|refine aops_go ?_|refine S1 ?_|refine Z1 ?_|refine Z2 ?_|(refine And.intro ?_ ?_<;>intro h<;>try first|(exfalso;omega)|exact absurd rfl h)|refine Z3 ?_|refine Z4 ?_|intro el hel hbB|intro el hel|intro ex|refine Z5 ?_|(refine free_i ?_ ?_;exact ⟨by kernel_rfl,by decide⟩)|refine allI_c ?_ ?_|exact allI_n|refine allMP_c ?_ ?_|exact allMP_n|(refine many_step ?_ ?_ ?_;kernel_rfl;kernel_rfl) | refine nc [0] [0] r3 rfl rfl rfl ⟨rfl,trivial⟩ ?_ | refine nc [0] [0] r8 rfl rfl rfl ⟨rfl,trivial⟩ ?_ | refine nc [0] [0] r12 rfl rfl rfl ⟨rfl,trivial⟩ ?_ | refine nc [0] [0] r17 rfl rfl rfl ⟨rfl,trivial⟩ ?_) <;> (try (conv=>whnf)))
  all_goals first
   | exact retg_vs (rvs:=[.cell 4 xprT, .tmp 5]) (vs:=[_,_]) ⟨1,_,_,rfl,rfl,inferInstance,rfl,rfl,trivial⟩ rfl rfl (le_trans (le_slot 4 (xprA (Xpr.mk 13 n14 [] c5 [] [] zX zX [])) rfl (nl_xpr (Xpr.mk 13 n14 [] c5 [] [] zX zX []) (.nil _) (.nil _) (.nil _) (.nil _) (.nil _))) (le_trans (le_rd 0 rfl) (le_of h0 rfl ⟨rfl,rfl,trivial⟩ ⟨rfl,trivial⟩ rfl rfl rfl))) rfl
   | (exfalso;omega)
 rw [hk15] at hZ;(try dsimp only at hZ)
 have r17:=ptake_yes (s:=s) hk15 (by omega) (by decide)
 have l18:=takO_len hk15
 rcases hc19:cndO s u16 with _ | ⟨cd23,u20⟩
 ·rw [hc19] at hZ;(try dsimp only at hZ);subst hZ
  obtain ⟨v,w,r21⟩:=pcnd_no hr hc19 (by omega)
  refine ⟨(Xpr.mk 13 n14 [] c5 [] [] v zX []),?_⟩
  refine gci Tryz.func120 90 fun E h0=>?_
  repeat' ((first | (refine draw_id 23 ?_;refine draw_le (id:=23) (σ':=⟨[(0, .ref 0 0),(4, .ref 1 0),(6, .iptr [.i 13, .i n14, .str [], .i c5,nilR,nilR, .i (Cnd.op v), .i (Cnd.col v), .i (Cnd.code v), .i (Cnd.lo v), .i (Cnd.hi v), .sl 6 ((Cnd.kids v).map cndL), .i 0, .i 0, .i 0, .i 0, .i 0,nilR,nilR]),(7, .b false)],2,[(0,rdBx s w),(1,some (.box [.i 0, .i 0, .str [], .i 0,nilR,nilR, .i 0, .i 0, .i 0, .i 0, .i 0,nilR, .i 0, .i 0, .i 0, .i 0, .i 0,nilR,nilR]))]⟩) (le_of h0 rfl ⟨rfl,rfl,rfl,rfl,trivial⟩ ⟨rfl,rfl,trivial⟩ rfl rfl rfl) ?_;refine draw_m (id:=23) ⟨[(4, .ref 1 0),(5, .b false)],2,[(0,rdBx s w),(1,some (.box [.i 13, .i n14, .str [], .i c5,nilR,nilR, .i (Cnd.op v), .i (Cnd.col v), .i (Cnd.code v), .i (Cnd.lo v), .i (Cnd.hi v), .sl 6 ((Cnd.kids v).map cndL), .i 0, .i 0, .i 0, .i 0, .i 0,nilR,nilR]))]⟩ ?_ ?_) |refine aops_go ?_|refine S1 ?_|refine Z1 ?_|refine Z2 ?_|(refine And.intro ?_ ?_<;>intro h<;>try first|(exfalso;omega)|exact absurd rfl h)|refine Z3 ?_|refine Z4 ?_|intro el hel hbB|intro el hel|intro ex|refine Z5 ?_|(refine free_i ?_ ?_;exact ⟨by kernel_rfl,by decide⟩)|refine allI_c ?_ ?_|exact allI_n|refine allMP_c ?_ ?_|exact allMP_n|(refine many_step ?_ ?_ ?_;kernel_rfl;kernel_rfl) | refine nc [0] [0] r3 rfl rfl rfl ⟨rfl,trivial⟩ ?_ | refine nc [0] [0] r8 rfl rfl rfl ⟨rfl,trivial⟩ ?_ | refine nc [0] [0] r12 rfl rfl rfl ⟨rfl,trivial⟩ ?_ | refine nc [0] [0] r17 rfl rfl rfl ⟨rfl,trivial⟩ ?_ | refine nc [0] [0] r21 rfl rfl rfl ⟨rfl,trivial⟩ ?_) <;> (try (conv=>whnf)))
  all_goals first
   | exact le_of h0 rfl ⟨rfl,rfl,trivial⟩ ⟨rfl,rfl,trivial⟩ rfl rfl rfl
   | exact retg_vs (rvs:=[.cell 4 xprT, .tmp 5]) (vs:=[_,_]) ⟨1,_,_,rfl,rfl,inferInstance,rfl,rfl,trivial⟩ rfl rfl (le_trans (le_slot 4 (xprA (Xpr.mk 13 n14 [] c5 [] [] v zX [])) rfl (nl_xpr (Xpr.mk 13 n14 [] c5 [] [] v zX []) (.nil _) (.nil _) (.refl _) (.nil _) (.nil _))) (le_trans (le_rd 0 rfl) (le_of h0 rfl ⟨rfl,rfl,trivial⟩ ⟨rfl,trivial⟩ rfl rfl rfl))) rfl
   | (exfalso;omega)
 rw [hc19] at hZ;(try dsimp only at hZ)
 obtain ⟨r21,l22⟩:=pcnd_yes hr hc19 (by omega)
 rcases hk24:takO [41] u20 with _ | u25
 ·rw [hk24] at hZ;(try dsimp only at hZ);subst hZ
  have r26:=ptake_no (s:=s) hk24 (by omega) (by decide)
  refine ⟨(Xpr.mk 13 n14 [] c5 [] [] cd23 zX []),?_⟩
  refine gci Tryz.func120 90 fun E h0=>?_
  repeat' ((first | (refine draw_id 23 ?_;refine draw_le (id:=23) (σ':=⟨[(0, .ref 0 0),(4, .ref 1 0),(6, .iptr [.i 13, .i n14, .str [], .i c5,nilR,nilR, .i (Cnd.op cd23), .i (Cnd.col cd23), .i (Cnd.code cd23), .i (Cnd.lo cd23), .i (Cnd.hi cd23), .sl 6 ((Cnd.kids cd23).map cndL), .i 0, .i 0, .i 0, .i 0, .i 0,nilR,nilR]),(7, .b true)],2,[(0,rdBx s u20),(1,some (.box [.i 0, .i 0, .str [], .i 0,nilR,nilR, .i 0, .i 0, .i 0, .i 0, .i 0,nilR, .i 0, .i 0, .i 0, .i 0, .i 0,nilR,nilR]))]⟩) (le_of h0 rfl ⟨rfl,rfl,rfl,rfl,trivial⟩ ⟨rfl,rfl,trivial⟩ rfl rfl rfl) ?_;refine draw_m (id:=23) ⟨[(4, .ref 1 0),(5, .b false)],2,[(0,rdBx s u20),(1,some (.box [.i 13, .i n14, .str [], .i c5,nilR,nilR, .i (Cnd.op cd23), .i (Cnd.col cd23), .i (Cnd.code cd23), .i (Cnd.lo cd23), .i (Cnd.hi cd23), .sl 6 ((Cnd.kids cd23).map cndL), .i 0, .i 0, .i 0, .i 0, .i 0,nilR,nilR]))]⟩ ?_ ?_) |refine aops_go ?_|refine S1 ?_|refine Z1 ?_|refine Z2 ?_|(refine And.intro ?_ ?_<;>intro h<;>try first|(exfalso;omega)|exact absurd rfl h)|refine Z3 ?_|refine Z4 ?_|intro el hel hbB|intro el hel|intro ex|refine Z5 ?_|(refine free_i ?_ ?_;exact ⟨by kernel_rfl,by decide⟩)|refine allI_c ?_ ?_|exact allI_n|refine allMP_c ?_ ?_|exact allMP_n|(refine many_step ?_ ?_ ?_;kernel_rfl;kernel_rfl) | refine nc [0] [0] r3 rfl rfl rfl ⟨rfl,trivial⟩ ?_ | refine nc [0] [0] r8 rfl rfl rfl ⟨rfl,trivial⟩ ?_ | refine nc [0] [0] r12 rfl rfl rfl ⟨rfl,trivial⟩ ?_ | refine nc [0] [0] r17 rfl rfl rfl ⟨rfl,trivial⟩ ?_ | refine nc [0] [0] r21 rfl rfl rfl ⟨rfl,trivial⟩ ?_ | refine nc [0] [0] r26 rfl rfl rfl ⟨rfl,trivial⟩ ?_) <;> (try (conv=>whnf)))
  all_goals first
   | exact le_of h0 rfl ⟨rfl,rfl,trivial⟩ ⟨rfl,rfl,trivial⟩ rfl rfl rfl
   | exact retg_vs (rvs:=[.cell 4 xprT, .tmp 5]) (vs:=[_,_]) ⟨1,_,_,rfl,rfl,inferInstance,rfl,rfl,trivial⟩ rfl rfl (le_trans (le_slot 4 (xprA (Xpr.mk 13 n14 [] c5 [] [] cd23 zX [])) rfl (nl_xpr (Xpr.mk 13 n14 [] c5 [] [] cd23 zX []) (.nil _) (.nil _) (.refl _) (.nil _) (.nil _))) (le_trans (le_rd 0 rfl) (le_of h0 rfl ⟨rfl,rfl,trivial⟩ ⟨rfl,trivial⟩ rfl rfl rfl))) rfl
   | (exfalso;omega)
 ·rw [hk24] at hZ;(try dsimp only at hZ);subst hZ
  have r26:=ptake_yes (s:=s) hk24 (by omega) (by decide)
  refine ⟨(Xpr.mk 13 n14 [] c5 [] [] cd23 zX []),?_⟩
  refine gci Tryz.func120 90 fun E h0=>?_
  repeat' ((first | (refine draw_id 23 ?_;refine draw_le (id:=23) (σ':=⟨[(0, .ref 0 0),(4, .ref 1 0),(6, .iptr [.i 13, .i n14, .str [], .i c5,nilR,nilR, .i (Cnd.op cd23), .i (Cnd.col cd23), .i (Cnd.code cd23), .i (Cnd.lo cd23), .i (Cnd.hi cd23), .sl 6 ((Cnd.kids cd23).map cndL), .i 0, .i 0, .i 0, .i 0, .i 0,nilR,nilR]),(7, .b true)],2,[(0,rdBx s u20),(1,some (.box [.i 0, .i 0, .str [], .i 0,nilR,nilR, .i 0, .i 0, .i 0, .i 0, .i 0,nilR, .i 0, .i 0, .i 0, .i 0, .i 0,nilR,nilR]))]⟩) (le_of h0 rfl ⟨rfl,rfl,rfl,rfl,trivial⟩ ⟨rfl,rfl,trivial⟩ rfl rfl rfl) ?_;refine draw_m (id:=23) ⟨[(4, .ref 1 0),(5, .b true)],2,[(0,rdBx s u25),(1,some (.box [.i 13, .i n14, .str [], .i c5,nilR,nilR, .i (Cnd.op cd23), .i (Cnd.col cd23), .i (Cnd.code cd23), .i (Cnd.lo cd23), .i (Cnd.hi cd23), .sl 6 ((Cnd.kids cd23).map cndL), .i 0, .i 0, .i 0, .i 0, .i 0,nilR,nilR]))]⟩ ?_ ?_) |refine aops_go ?_|refine S1 ?_|refine Z1 ?_|refine Z2 ?_|(refine And.intro ?_ ?_<;>intro h<;>try first|(exfalso;omega)|exact absurd rfl h)|refine Z3 ?_|refine Z4 ?_|intro el hel hbB|intro el hel|intro ex|refine Z5 ?_|(refine free_i ?_ ?_;exact ⟨by kernel_rfl,by decide⟩)|refine allI_c ?_ ?_|exact allI_n|refine allMP_c ?_ ?_|exact allMP_n|(refine many_step ?_ ?_ ?_;kernel_rfl;kernel_rfl) | refine nc [0] [0] r3 rfl rfl rfl ⟨rfl,trivial⟩ ?_ | refine nc [0] [0] r8 rfl rfl rfl ⟨rfl,trivial⟩ ?_ | refine nc [0] [0] r12 rfl rfl rfl ⟨rfl,trivial⟩ ?_ | refine nc [0] [0] r17 rfl rfl rfl ⟨rfl,trivial⟩ ?_ | refine nc [0] [0] r21 rfl rfl rfl ⟨rfl,trivial⟩ ?_ | refine nc [0] [0] r26 rfl rfl rfl ⟨rfl,trivial⟩ ?_) <;> (try (conv=>whnf)))
  all_goals first
   | exact le_of h0 rfl ⟨rfl,rfl,trivial⟩ ⟨rfl,rfl,trivial⟩ rfl rfl rfl
   | exact retg_vs (rvs:=[.cell 4 xprT, .tmp 5]) (vs:=[_,_]) ⟨1,_,_,rfl,rfl,inferInstance,rfl,rfl,trivial⟩ rfl rfl (le_trans (le_slot 4 (xprA (Xpr.mk 13 n14 [] c5 [] [] cd23 zX [])) rfl (nl_xpr (Xpr.mk 13 n14 [] c5 [] [] cd23 zX []) (.nil _) (.nil _) (.refl _) (.nil _) (.nil _))) (le_of h0 rfl ⟨rfl,rfl,trivial⟩ ⟨rfl,trivial⟩ rfl rfl rfl)) rfl
   | (exfalso;omega)
theorem pparts_call (s:Sch) (hr:schE s = 0) (t:List UInt8) (ht:t.length ≤ 1000000) (o:Int) (ho:o = 3 ∨ o = 4 ∨ o = 5 ∨ o = 10 ∨ o = 11 ∨ o = 12 ∨ o = 13 ∨ o = 14):∃ z:Xpr,GCall Tryz.prog 120 1 (rdP s t) [.ref 0 0, .i o] 1 (hpO s (parsO s o t)) (tupO xprA (xprA z) (parsO s o t)):=by
 by_cases h1:o = 4 ∨ o = 5 ∨ o = 14
 ·exact pparts_one s hr t ht o h1 _ rfl
 have h2:o = 3 ∨ o = 10 ∨ o = 11 ∨ o = 12 ∨ o = 13:=by omega
 rcases h2 with rfl | rfl | rfl | rfl | rfl
 ·exact pparts_cnt s hr t ht _ rfl
 ·exact pparts_tab s hr t ht _ rfl
 ·exact pparts_mod s hr t ht _ rfl
 ·exact pparts_cur s hr t ht _ rfl
 ·exact pparts_his s hr t ht _ rfl
end Go.Proofs.YtjmbhlgocikfiaaGreatDoor

/- Draws: numbers and expressions. -/
import Derived.Test.YtjmbhlgocikfiaaGreatDoorTF5
set_option linter.unusedVariables false
set_option linter.unnecessarySimpa false
set_option linter.unusedSimpArgs false
namespace Go.Proofs.YtjmbhlgocikfiaaGreatDoor
open Go Go.Av
attribute [local irreducible] AWp AOps AAny MAny DQ retQ retG St.le FCall GCall
set_option maxRecDepth 100000
abbrev nmB (l:List UInt8) (a:Nat) (names:List (List UInt8)):Hp:=[(0,some (.box [.sl 1 (l.map u8A), .i a])),(1,some (.row (keepE + 9) 1 0 (names.map strV)))]
set_option maxHeartbeats 16000000 in
theorem numr_draw (l:List UInt8) (s:Sch) (hd:Drawn s) (hl:l.length ≤ 400) (names:List (List UInt8)) (hnm:names.length ≤ 30) (d:Nat):∀ a:Nat,d ≤ 10 → GCall Tryz.prog 69 2 (nmB l a names) [.ref 0 0,sA s, .row 1 0 names.length, .i d] 2 (nmB l (numD l s names d a).2 names) (xprA (numD l s names d a).1):=by
 induction d with
 | zero =>
  intro a _
  show GCall _ _ _ _ _ _ (nmB l (numL l s names a).2 names) (xprA (numL l s names a).1)
  unfold numL
  have r1:=next_call l a 6 hl
  have h6:=nxt_lt l a (n:=6) (by omega)
  generalize nxt l a 6 = q at *
  obtain ⟨q1,q2⟩:=q
  dsimp only at r1 h6 ⊢
  have r2:=range_call l q2 (-9) 30 hl (by omega) (by omega) (by omega)
  rw [show (30:Int) - -9 + 1 = 40 from rfl] at r2
  have h40:=nxt_lt l q2 (n:=40) (by omega)
  generalize nxt l q2 40 = u at *
  obtain ⟨ua,ub⟩:=u
  dsimp only at r2 h40 ⊢
  have r3:0 < (names.length:Int) → GCall Tryz.prog 28 1 (drB l q2) [.ref 0 0, .i names.length] 1 (drB l (nxt l q2 names.length).2) (.i (nxt l q2 names.length).1):=fun h=>next_call l q2 names.length hl
  have hwl:¬ 0 < (names.length:Int) ∨ ((nxt l q2 names.length).1:Int) < names.length:=by
   by_cases hn:0 < (names.length:Int)
   ·exact .inr (nxt_lt l q2 (by omega))
   ·exact .inl hn
  have hw:0 < (names.length:Int) → names[(nxt l q2 names.length).1]? = some (names.getD (nxt l q2 names.length).1 []):=fun h=>by
   have:=nxt_lt l q2 (n:=names.length) (by omega)
   rw [List.getD_eq_getElem?_getD,List.getElem?_eq_getElem (by omega)];rfl
  generalize names.getD (nxt l q2 names.length).1 [] = nm at *
  generalize nxt l q2 names.length = w at *
  obtain ⟨wa,wb⟩:=w
  dsimp only at r3 hwl hw ⊢
  have r4:=measured_call l q2 s hd hl
  generalize colD l q2 s 3 = m at *
  obtain ⟨ma,mb⟩:=m
  dsimp only at r4 ⊢
  have r5:=cond_draw l s hd hl 1 mb (by omega)
  generalize condS l s 1 mb = c1 at *
  obtain ⟨c1a,c1b⟩:=c1
  have r6:=cond_draw l s hd hl 0 mb (by omega)
  generalize condS l s 0 mb = c0 at *
  obtain ⟨c0a,c0b⟩:=c0
  have r7:=cond_draw l s hd hl 2 q2 (by omega)
  generalize condS l s 2 q2 = c2 at *
  obtain ⟨c2a,c2b⟩:=c2
  dsimp only at r5 r6 r7 ⊢
  refine gci Tryz.func69 73 fun E h0=>?_
  repeat' ((first | refine ⟨ncall_h [0] [0] r1 rfl rfl rfl rfl rfl ⟨rfl,trivial⟩ rfl rfl rfl rfl rfl ?_⟩ | refine ⟨ncall_h [0] [0] r2 rfl rfl rfl rfl rfl ⟨rfl,trivial⟩ rfl rfl rfl rfl rfl ?_⟩ | (refine ⟨ncall_h [0] [0] (r3 (by assumption)) rfl rfl rfl rfl rfl ⟨rfl,trivial⟩ rfl rfl rfl rfl rfl ?_⟩) | (refine each_known (x:=strV nm) (by rw [List.getElem?_map,hw (by assumption)];rfl) (by omega) ?_) | refine ⟨ncall_h [0] [0] r4 rfl rfl rfl rfl rfl ⟨rfl,trivial⟩ rfl rfl rfl rfl rfl ?_⟩ | refine ⟨ncall_h [0] [0] r5 rfl rfl rfl rfl rfl ⟨rfl,trivial⟩ rfl rfl rfl rfl rfl ?_⟩ | refine ⟨ncall_h [0] [0] r6 rfl rfl rfl rfl rfl ⟨rfl,trivial⟩ rfl rfl rfl rfl rfl ?_⟩ | refine ⟨ncall_h [0] [0] r7 rfl rfl rfl rfl rfl ⟨rfl,trivial⟩ rfl rfl rfl rfl rfl ?_⟩ | (refine draw_id 10 ?_;refine draw_m (id:=10) ⟨[(8, .ref 3 0)],4,[(0,some (.box [.sl 1 (l.map u8A), .i c1b])),(1,some (.row (keepE + 9) 1 0 (names.map strV))),(3,some (.box [.i 4, .i 0, .str [], .i ma,nilW,nilW, .i (Cnd.op c1a), .i (Cnd.col c1a), .i (Cnd.code c1a), .i (Cnd.lo c1a), .i (Cnd.hi c1a), .sl 6 ((Cnd.kids c1a).map cndL), .i 0, .i 0, .i 0, .i 0, .i 0,nilW,nilW]))]⟩ ?_ ?_) | (refine draw_id 12 ?_;refine draw_m (id:=12) ⟨[(8, .ref 3 0)],4,[(0,some (.box [.sl 1 (l.map u8A), .i c0b])),(1,some (.row (keepE + 9) 1 0 (names.map strV))),(3,some (.box [.i 5, .i 0, .str [], .i ma,nilW,nilW, .i (Cnd.op c0a), .i (Cnd.col c0a), .i (Cnd.code c0a), .i (Cnd.lo c0a), .i (Cnd.hi c0a), .sl 6 ((Cnd.kids c0a).map cndL), .i 0, .i 0, .i 0, .i 0, .i 0,nilW,nilW]))]⟩ ?_ ?_) |refine aops_go ?_|refine S1 ?_|refine Z1 ?_|refine Z2 ?_|(refine And.intro ?_ ?_<;>intro h<;>try first|(exfalso;omega)|exact absurd rfl h)|refine Z3 ?_|refine Z4 ?_|intro el hel hbB|intro el hel|intro ex|refine Z5 ?_|(refine free_i ?_ ?_;exact ⟨by kernel_rfl,by decide⟩)|refine allI_c ?_ ?_|exact allI_n|refine allMP_c ?_ ?_|exact allMP_n|(refine many_step ?_ ?_ ?_;kernel_rfl;kernel_rfl)) <;> (try (conv=>whnf)))
  all_goals first
   | exact le_of h0 rfl ⟨rfl,trivial⟩ ⟨rfl,⟨_,rfl⟩,rfl,trivial⟩ rfl rfl rfl
   | (exfalso;omega)
   | (rw [if_pos (by assumption)];exact retg_vs (rvs:=[.cell 8 xprT]) (vs:=[_]) ⟨3,_,_,rfl,rfl,inferInstance,rfl,rfl,trivial⟩ rfl rfl (le_trans (le_slot 8 (xprA (.mk 1 (-9 + (ua:Int)) [] 0 [] [] zC zC [])) rfl (nl_xpr (.mk 1 (-9 + (ua:Int)) [] 0 [] [] zC zC []) (.nil 1) (.nil 2) (.nil 6) (.nil 6) (.nil 19))) (le_of h0 rfl ⟨rfl,trivial⟩ ⟨rfl,⟨_,rfl⟩,trivial⟩ rfl rfl rfl)) rfl)
   | (have h9:=hw (by assumption);have h8:names[wa]? = some el:=hel;rw [h9] at h8;cases h8;rw [if_neg (by omega),if_pos (by omega)];exact retg_vs (rvs:=[.cell 8 xprT]) (vs:=[_]) ⟨3,_,_,rfl,rfl,inferInstance,rfl,rfl,trivial⟩ rfl rfl (le_trans (le_slot 8 (xprA (.mk 2 0 nm 0 [] [] zC zC [])) rfl (nl_xpr (.mk 2 0 nm 0 [] [] zC zC []) (.nil 1) (.nil 2) (.nil 6) (.nil 6) (.nil 19))) (le_of h0 rfl ⟨rfl,trivial⟩ ⟨rfl,⟨_,rfl⟩,trivial⟩ rfl rfl rfl)) rfl)
   | (rw [if_neg (by omega),if_neg (by omega),if_pos (by assumption)];exact retg_vs (rvs:=[.cell 8 xprT]) (vs:=[_]) ⟨3,_,_,rfl,rfl,inferInstance,rfl,rfl,trivial⟩ rfl rfl (le_trans (le_slot 8 (xprA (.mk 4 0 [] ma [] [] c1a zC [])) rfl (nl_xpr (.mk 4 0 [] ma [] [] c1a zC []) (.nil 1) (.nil 2) (.refl _) (.nil 6) (.nil 19))) (le_of h0 rfl ⟨rfl,trivial⟩ ⟨rfl,⟨_,rfl⟩,trivial⟩ rfl rfl rfl)) rfl)
   | (rw [if_neg (by omega),if_neg (by omega),if_neg (by omega),if_pos (by assumption)];exact retg_vs (rvs:=[.cell 8 xprT]) (vs:=[_]) ⟨3,_,_,rfl,rfl,inferInstance,rfl,rfl,trivial⟩ rfl rfl (le_trans (le_slot 8 (xprA (.mk 5 0 [] ma [] [] c0a zC [])) rfl (nl_xpr (.mk 5 0 [] ma [] [] c0a zC []) (.nil 1) (.nil 2) (.refl _) (.nil 6) (.nil 19))) (le_of h0 rfl ⟨rfl,trivial⟩ ⟨rfl,⟨_,rfl⟩,trivial⟩ rfl rfl rfl)) rfl)
   | (rw [if_neg (by omega),if_neg (by omega),if_neg (by omega),if_neg (by omega)];exact retg_vs (rvs:=[.cell 8 xprT]) (vs:=[_]) ⟨3,_,_,rfl,rfl,inferInstance,rfl,rfl,trivial⟩ rfl rfl (le_trans (le_slot 8 (xprA (.mk 3 0 [] 0 [] [] c2a zC [])) rfl (nl_xpr (.mk 3 0 [] 0 [] [] c2a zC []) (.nil 1) (.nil 2) (.refl _) (.nil 6) (.nil 19))) (le_of h0 rfl ⟨rfl,trivial⟩ ⟨rfl,⟨_,rfl⟩,trivial⟩ rfl rfl rfl)) rfl)
 | succ d ih =>
  intro a hd10
  have e1:(((d + 1:Nat):Int) - 1) = (d:Int):=by omega
  unfold numD numL
  have r0:=one_call l a 2 hl (by omega)
  generalize nxt l a 2 = f at *
  obtain ⟨f1,f2⟩:=f
  dsimp only at r0 ⊢
  have rr:=range_call l f2 6 9 hl (by omega) (by omega) (by omega)
  rw [show (9:Int) - 6 + 1 = 4 from rfl] at rr
  generalize nxt l f2 4 = g at *
  obtain ⟨ga,gb⟩:=g
  dsimp only at rr ⊢
  have hX:=ih gb (by omega)
  rw [← e1] at hX
  generalize numD l s names d gb = X at *
  obtain ⟨X1,X2⟩:=X
  dsimp only at hX ⊢
  have hY:=ih X2 (by omega)
  rw [← e1] at hY
  generalize numD l s names d X2 = Y at *
  obtain ⟨Y1,Y2⟩:=Y
  dsimp only at hY ⊢
  clear ih e1
  have r1:=next_call l f2 6 hl
  have h6:=nxt_lt l f2 (n:=6) (by omega)
  generalize nxt l f2 6 = q at *
  obtain ⟨q1,q2⟩:=q
  dsimp only at r1 h6 ⊢
  have r2:=range_call l q2 (-9) 30 hl (by omega) (by omega) (by omega)
  rw [show (30:Int) - -9 + 1 = 40 from rfl] at r2
  have h40:=nxt_lt l q2 (n:=40) (by omega)
  generalize nxt l q2 40 = u at *
  obtain ⟨ua,ub⟩:=u
  dsimp only at r2 h40 ⊢
  have r3:0 < (names.length:Int) → GCall Tryz.prog 28 1 (drB l q2) [.ref 0 0, .i names.length] 1 (drB l (nxt l q2 names.length).2) (.i (nxt l q2 names.length).1):=fun h=>next_call l q2 names.length hl
  have hwl:¬ 0 < (names.length:Int) ∨ ((nxt l q2 names.length).1:Int) < names.length:=by
   by_cases hn:0 < (names.length:Int)
   ·exact .inr (nxt_lt l q2 (by omega))
   ·exact .inl hn
  have hw:0 < (names.length:Int) → names[(nxt l q2 names.length).1]? = some (names.getD (nxt l q2 names.length).1 []):=fun h=>by
   have:=nxt_lt l q2 (n:=names.length) (by omega)
   rw [List.getD_eq_getElem?_getD,List.getElem?_eq_getElem (by omega)];rfl
  generalize names.getD (nxt l q2 names.length).1 [] = nm at *
  generalize nxt l q2 names.length = w at *
  obtain ⟨wa,wb⟩:=w
  dsimp only at r3 hwl hw ⊢
  have r4:=measured_call l q2 s hd hl
  generalize colD l q2 s 3 = m at *
  obtain ⟨ma,mb⟩:=m
  dsimp only at r4 ⊢
  have r5:=cond_draw l s hd hl 1 mb (by omega)
  generalize condS l s 1 mb = c1 at *
  obtain ⟨c1a,c1b⟩:=c1
  have r6:=cond_draw l s hd hl 0 mb (by omega)
  generalize condS l s 0 mb = c0 at *
  obtain ⟨c0a,c0b⟩:=c0
  have r7:=cond_draw l s hd hl 2 q2 (by omega)
  generalize condS l s 2 q2 = c2 at *
  obtain ⟨c2a,c2b⟩:=c2
  dsimp only at r5 r6 r7 ⊢
  refine gci Tryz.func69 73 fun E h0=>?_
  repeat' ((first | refine ⟨ncall_h [0] [0] r0 rfl rfl rfl rfl rfl ⟨rfl,trivial⟩ rfl rfl rfl rfl rfl ?_⟩ | refine ⟨ncall_h [0] [0] rr rfl rfl rfl rfl rfl ⟨rfl,trivial⟩ rfl rfl rfl rfl rfl ?_⟩ | refine ⟨ncall_h [0,1] [0,0] hX rfl rfl rfl rfl rfl ⟨rfl,rfl,trivial⟩ rfl rfl rfl rfl rfl ?_⟩ | refine ⟨ncall_h [0,1] [0,0] hY rfl rfl rfl rfl rfl ⟨rfl,rfl,trivial⟩ rfl rfl rfl rfl rfl ?_⟩ | (refine draw_id 2 ?_;refine draw_m (id:=2) ⟨[(8, .ref 3 0)],4,[(0,some (.box [.sl 1 (l.map u8A), .i Y2])),(1,some (.row (keepE + 9) 1 0 (names.map strV))),(3,some (.box [.i (6 + (ga:Int)), .i 0, .str [], .i 0,nilW,nilW, .i 0, .i 0, .i 0, .i 0, .i 0,nilW, .i 0, .i 0, .i 0, .i 0, .i 0,nilW, .sl 19 [xprX X1,xprX Y1]]))]⟩ ?_ ?_) | refine ⟨ncall_h [0] [0] r1 rfl rfl rfl rfl rfl ⟨rfl,trivial⟩ rfl rfl rfl rfl rfl ?_⟩ | refine ⟨ncall_h [0] [0] r2 rfl rfl rfl rfl rfl ⟨rfl,trivial⟩ rfl rfl rfl rfl rfl ?_⟩ | (refine ⟨ncall_h [0] [0] (r3 (by assumption)) rfl rfl rfl rfl rfl ⟨rfl,trivial⟩ rfl rfl rfl rfl rfl ?_⟩) | (refine each_known (x:=strV nm) (by rw [List.getElem?_map,hw (by assumption)];rfl) (by omega) ?_) | refine ⟨ncall_h [0] [0] r4 rfl rfl rfl rfl rfl ⟨rfl,trivial⟩ rfl rfl rfl rfl rfl ?_⟩ | refine ⟨ncall_h [0] [0] r5 rfl rfl rfl rfl rfl ⟨rfl,trivial⟩ rfl rfl rfl rfl rfl ?_⟩ | refine ⟨ncall_h [0] [0] r6 rfl rfl rfl rfl rfl ⟨rfl,trivial⟩ rfl rfl rfl rfl rfl ?_⟩ | refine ⟨ncall_h [0] [0] r7 rfl rfl rfl rfl rfl ⟨rfl,trivial⟩ rfl rfl rfl rfl rfl ?_⟩ | (refine draw_id 10 ?_;refine draw_m (id:=10) ⟨[(8, .ref 3 0)],4,[(0,some (.box [.sl 1 (l.map u8A), .i c1b])),(1,some (.row (keepE + 9) 1 0 (names.map strV))),(3,some (.box [.i 4, .i 0, .str [], .i ma,nilW,nilW, .i (Cnd.op c1a), .i (Cnd.col c1a), .i (Cnd.code c1a), .i (Cnd.lo c1a), .i (Cnd.hi c1a), .sl 6 ((Cnd.kids c1a).map cndL), .i 0, .i 0, .i 0, .i 0, .i 0,nilW,nilW]))]⟩ ?_ ?_) | (refine draw_id 12 ?_;refine draw_m (id:=12) ⟨[(8, .ref 3 0)],4,[(0,some (.box [.sl 1 (l.map u8A), .i c0b])),(1,some (.row (keepE + 9) 1 0 (names.map strV))),(3,some (.box [.i 5, .i 0, .str [], .i ma,nilW,nilW, .i (Cnd.op c0a), .i (Cnd.col c0a), .i (Cnd.code c0a), .i (Cnd.lo c0a), .i (Cnd.hi c0a), .sl 6 ((Cnd.kids c0a).map cndL), .i 0, .i 0, .i 0, .i 0, .i 0,nilW,nilW]))]⟩ ?_ ?_) |refine aops_go ?_|refine S1 ?_|refine Z1 ?_|refine Z2 ?_|(refine And.intro ?_ ?_<;>intro h<;>try first|(exfalso;omega)|exact absurd rfl h)|refine Z3 ?_|refine Z4 ?_|intro el hel hbB|intro el hel|intro ex|refine Z5 ?_|(refine free_i ?_ ?_;exact ⟨by kernel_rfl,by decide⟩)|refine allI_c ?_ ?_|exact allI_n|refine allMP_c ?_ ?_|exact allMP_n|(refine many_step ?_ ?_ ?_;kernel_rfl;kernel_rfl)) <;> (try (conv=>whnf)))
  all_goals first
   | exact le_of h0 rfl ⟨rfl,trivial⟩ ⟨rfl,⟨_,rfl⟩,rfl,trivial⟩ rfl rfl rfl
   | (exfalso;omega)
   | (rw [if_pos (by assumption)];exact retg_vs (rvs:=[.cell 8 xprT]) (vs:=[_]) ⟨3,_,_,rfl,rfl,inferInstance,rfl,rfl,trivial⟩ rfl rfl (le_trans (le_slot 8 (xprA (.mk (6 + (ga:Int)) 0 [] 0 [] [] zC zC [X1,Y1])) rfl (nl_xpr (.mk (6 + (ga:Int)) 0 [] 0 [] [] zC zC [X1,Y1]) (.nil 1) (.nil 2) (.nil 6) (.nil 6) (by show NL _ (.sl 19 [xprL X1,xprL Y1]);rw [xprX_eq,xprX_eq];exact .refl _))) (le_of h0 rfl ⟨rfl,trivial⟩ ⟨rfl,⟨_,rfl⟩,trivial⟩ rfl rfl rfl)) rfl)
   | (rw [if_neg (by assumption),if_pos (by assumption)];exact retg_vs (rvs:=[.cell 8 xprT]) (vs:=[_]) ⟨3,_,_,rfl,rfl,inferInstance,rfl,rfl,trivial⟩ rfl rfl (le_trans (le_slot 8 (xprA (.mk 1 (-9 + (ua:Int)) [] 0 [] [] zC zC [])) rfl (nl_xpr (.mk 1 (-9 + (ua:Int)) [] 0 [] [] zC zC []) (.nil 1) (.nil 2) (.nil 6) (.nil 6) (.nil 19))) (le_of h0 rfl ⟨rfl,trivial⟩ ⟨rfl,⟨_,rfl⟩,trivial⟩ rfl rfl rfl)) rfl)
   | (have h9:=hw (by assumption);have h8:names[wa]? = some el:=hel;rw [h9] at h8;cases h8;rw [if_neg (by assumption),if_neg (by omega),if_pos (by omega)];exact retg_vs (rvs:=[.cell 8 xprT]) (vs:=[_]) ⟨3,_,_,rfl,rfl,inferInstance,rfl,rfl,trivial⟩ rfl rfl (le_trans (le_slot 8 (xprA (.mk 2 0 nm 0 [] [] zC zC [])) rfl (nl_xpr (.mk 2 0 nm 0 [] [] zC zC []) (.nil 1) (.nil 2) (.nil 6) (.nil 6) (.nil 19))) (le_of h0 rfl ⟨rfl,trivial⟩ ⟨rfl,⟨_,rfl⟩,trivial⟩ rfl rfl rfl)) rfl)
   | (rw [if_neg (by assumption),if_neg (by omega),if_neg (by omega),if_pos (by assumption)];exact retg_vs (rvs:=[.cell 8 xprT]) (vs:=[_]) ⟨3,_,_,rfl,rfl,inferInstance,rfl,rfl,trivial⟩ rfl rfl (le_trans (le_slot 8 (xprA (.mk 4 0 [] ma [] [] c1a zC [])) rfl (nl_xpr (.mk 4 0 [] ma [] [] c1a zC []) (.nil 1) (.nil 2) (.refl _) (.nil 6) (.nil 19))) (le_of h0 rfl ⟨rfl,trivial⟩ ⟨rfl,⟨_,rfl⟩,trivial⟩ rfl rfl rfl)) rfl)
   | (rw [if_neg (by assumption),if_neg (by omega),if_neg (by omega),if_neg (by omega),if_pos (by assumption)];exact retg_vs (rvs:=[.cell 8 xprT]) (vs:=[_]) ⟨3,_,_,rfl,rfl,inferInstance,rfl,rfl,trivial⟩ rfl rfl (le_trans (le_slot 8 (xprA (.mk 5 0 [] ma [] [] c0a zC [])) rfl (nl_xpr (.mk 5 0 [] ma [] [] c0a zC []) (.nil 1) (.nil 2) (.refl _) (.nil 6) (.nil 19))) (le_of h0 rfl ⟨rfl,trivial⟩ ⟨rfl,⟨_,rfl⟩,trivial⟩ rfl rfl rfl)) rfl)
   | (rw [if_neg (by assumption),if_neg (by omega),if_neg (by omega),if_neg (by omega),if_neg (by omega)];exact retg_vs (rvs:=[.cell 8 xprT]) (vs:=[_]) ⟨3,_,_,rfl,rfl,inferInstance,rfl,rfl,trivial⟩ rfl rfl (le_trans (le_slot 8 (xprA (.mk 3 0 [] 0 [] [] c2a zC [])) rfl (nl_xpr (.mk 3 0 [] 0 [] [] c2a zC []) (.nil 1) (.nil 2) (.refl _) (.nil 6) (.nil 19))) (le_of h0 rfl ⟨rfl,trivial⟩ ⟨rfl,⟨_,rfl⟩,trivial⟩ rfl rfl rfl)) rfl)
end Go.Proofs.YtjmbhlgocikfiaaGreatDoor

/- Draws: expressions. -/
import Derived.Test.YtjmbhlgocikfiaaGreatDoorTDx2r
import Derived.Test.YtjmbhlgocikfiaaGreatDoorTB13
import Derived.Test.YtjmbhlgocikfiaaGreatDoorTB5
set_option linter.unusedVariables false
set_option linter.unnecessarySimpa false
set_option linter.unusedSimpArgs false
namespace Go.Proofs.YtjmbhlgocikfiaaGreatDoor
open Go Go.Av
attribute [local irreducible] AWp AOps AAny MAny DQ retQ retG St.le FCall GCall
set_option maxRecDepth 100000
set_option maxHeartbeats 32000000 in
theorem exprr_draw (l:List UInt8) (s:Sch) (hd:Drawn s) (hl:l.length ≤ 400) (names:List (List UInt8)) (hnm:names.length ≤ 30) (a:Nat):GCall Tryz.prog 33 2 (nmB l a names) [.ref 0 0,sA s, .row 1 0 names.length] 2 (nmB l (exprD l s names a).2 names) (xprA (exprD l s names a).1):=by
 unfold exprD
 have r0:=measured_call l a s hd hl
 obtain ⟨_,hm1,hm2⟩:=colD_ok (l:=l) (a:=a) hd.two.2
 generalize colD l a s 3 = m at *
 obtain ⟨ma,mb⟩:=m
 dsimp only at r0 hm1 hm2 ⊢
 obtain ⟨x,hx⟩:∃ x,s.cols[ma]? = some x:=⟨_,List.getElem?_eq_getElem hm1⟩
 have hxa:colAt s ma = x:=colAt_get (by simpa using hx)
 rw [hxa] at hm2 ⊢
 have hwl:1 ≤ x.widths.length ∧ x.widths.length ≤ 4:=by
  rcases hd.col hx with ⟨_,rfl⟩ | ⟨_,rfl | rfl⟩ | ⟨_,nm,h⟩
  ·cases hm2
  ·cases hm2
  ·cases hm2
  ·exact ⟨(wid_one h).1,(wid_one h).2.1⟩
 have r1:=next_call l mb 8 hl
 generalize nxt l mb 8 = q at *
 obtain ⟨q1,q2⟩:=q
 dsimp only at r1 ⊢
 have r2:=dimsd_call l q2 s hd hl
 generalize dimsD l q2 s = D at *
 obtain ⟨D1,D2⟩:=D
 dsimp only at r2 ⊢
 have r3:=cond_draw l s hd hl 1 D2 (by omega)
 generalize condS l s 1 D2 = c1 at *
 obtain ⟨c1a,c1b⟩:=c1
 dsimp only at r3 ⊢
 have r4:=one_call l c1b 2 hl (by omega)
 generalize nxt l c1b 2 = w at *
 obtain ⟨w1,w2⟩:=w
 dsimp only at r4 ⊢
 have r5:=termsd_call l q2 s ma hd hl
 generalize termsD l q2 s ma = T at *
 obtain ⟨T1,T2⟩:=T
 dsimp only at r5 ⊢
 have r6:=cond_draw l s hd hl 1 T2 (by omega)
 generalize condS l s 1 T2 = c2 at *
 obtain ⟨c2a,c2b⟩:=c2
 dsimp only at r6 ⊢
 have r7:=numr_draw l s hd hl names hnm 2 T2 (by omega)
 generalize numD l s names 2 T2 = n1 at *
 obtain ⟨n1a,n1b⟩:=n1
 dsimp only at r7 ⊢
 have r8:=cond_draw l s hd hl 0 q2 (by omega)
 generalize condS l s 0 q2 = c3 at *
 obtain ⟨c3a,c3b⟩:=c3
 dsimp only at r8 ⊢
 have r9:=cond_draw l s hd hl 0 c3b (by omega)
 generalize condS l s 0 c3b = c4 at *
 obtain ⟨c4a,c4b⟩:=c4
 dsimp only at r9 ⊢
 have ra:=next_call l q2 x.widths.length hl
 have hra:=nxt_lt l q2 (n:=x.widths.length) (by omega)
 generalize nxt l q2 x.widths.length = u at *
 obtain ⟨u1,u2⟩:=u
 dsimp only at ra hra ⊢
 have hwg:x.widths[u1]? = some (x.widths.getD u1 0):=by rw [List.getD_eq_getElem?_getD,List.getElem?_eq_getElem (by omega)];rfl
 generalize x.widths.getD u1 0 = wv at *
 have rb:=cond_draw l s hd hl 1 u2 (by omega)
 generalize condS l s 1 u2 = c5 at *
 obtain ⟨c5a,c5b⟩:=c5
 dsimp only at rb ⊢
 have rc:=numr_draw l s hd hl names hnm 2 q2 (by omega)
 generalize numD l s names 2 q2 = n2 at *
 obtain ⟨n2a,n2b⟩:=n2
 dsimp only at rc ⊢
 have e2:((2:Nat):Int) = 2:=rfl
 rw [e2] at r7 rc
 refine gci Tryz.func33 94 fun E h0=>?_
 repeat' ((first | refine ⟨ncall_h [0] [0] r0 rfl rfl rfl rfl rfl ⟨rfl,trivial⟩ rfl rfl rfl rfl rfl ?_⟩ | refine ⟨ncall_h [0] [0] r1 rfl rfl rfl rfl rfl ⟨rfl,trivial⟩ rfl rfl rfl rfl rfl ?_⟩ | refine ⟨ncall_h [0] [0] r2 rfl rfl rfl rfl rfl ⟨rfl,trivial⟩ rfl rfl rfl rfl rfl ?_⟩ | refine ⟨ncall_h [0] [0] r3 rfl rfl rfl rfl rfl ⟨rfl,trivial⟩ rfl rfl rfl rfl rfl ?_⟩ | refine ⟨ncall_h [0] [0] r4 rfl rfl rfl rfl rfl ⟨rfl,trivial⟩ rfl rfl rfl rfl rfl ?_⟩ | refine ⟨ncall_h [0] [0] r5 rfl rfl rfl rfl rfl ⟨rfl,trivial⟩ rfl rfl rfl rfl rfl ?_⟩ | refine ⟨ncall_h [0] [0] r6 rfl rfl rfl rfl rfl ⟨rfl,trivial⟩ rfl rfl rfl rfl rfl ?_⟩ | refine ⟨ncall_h [0,1] [0,0] r7 rfl rfl rfl rfl rfl ⟨rfl,rfl,trivial⟩ rfl rfl rfl rfl rfl ?_⟩ | refine ⟨ncall_h [0] [0] r8 rfl rfl rfl rfl rfl ⟨rfl,trivial⟩ rfl rfl rfl rfl rfl ?_⟩ | refine ⟨ncall_h [0] [0] r9 rfl rfl rfl rfl rfl ⟨rfl,trivial⟩ rfl rfl rfl rfl rfl ?_⟩ | refine ⟨ncall_h [0] [0] ra rfl rfl rfl rfl rfl ⟨rfl,trivial⟩ rfl rfl rfl rfl rfl ?_⟩ | refine ⟨ncall_h [0] [0] rb rfl rfl rfl rfl rfl ⟨rfl,trivial⟩ rfl rfl rfl rfl rfl ?_⟩ | refine ⟨ncall_h [0,1] [0,0] rc rfl rfl rfl rfl rfl ⟨rfl,rfl,trivial⟩ rfl rfl rfl rfl rfl ?_⟩ | (refine each_knownm (x:=x) (by simpa using hx) (by omega) ?_) | (refine each_knownm (x:=wv) hwg (by omega) ?_) |refine aops_go ?_|refine S1 ?_|refine Z1 ?_|refine Z2 ?_|(refine And.intro ?_ ?_<;>intro h<;>try first|(exfalso;omega)|exact absurd rfl h)|refine Z3 ?_|refine Z4 ?_|intro el hel hbB|intro el hel|intro ex|refine Z5 ?_|(refine free_i ?_ ?_;exact ⟨by kernel_rfl,by decide⟩)|refine allI_c ?_ ?_|exact allI_n|refine allMP_c ?_ ?_|exact allMP_n|(refine many_step ?_ ?_ ?_;kernel_rfl;kernel_rfl) | (refine draw_id 5 ?_;refine draw_le (id:=5) (σ':=⟨[(0, .ref 0 0),(2, .row 1 0 names.length),(4, .iptr (sL s)),(6, .ref 3 0),(7, .i ma)],4,[(0,some (.box [.sl 1 (l.map u8A), .i q2])),(1,some (.row (keepE + 9) 1 0 (names.map strV))),(3,some (.box [.i 0, .i 0, .str [], .i 0,nilW,nilW, .i 0, .i 0, .i 0, .i 0, .i 0,nilW, .i 0, .i 0, .i 0, .i 0, .i 0,nilW,nilW]))]⟩) (le_of h0 rfl ⟨rfl,rfl,rfl,rfl,rfl,trivial⟩ ⟨rfl,⟨_,rfl⟩,rfl,trivial⟩ rfl rfl rfl) ?_;refine draw_m (id:=5) ⟨[(0, .ref 0 0),(2, .row 1 0 names.length),(6, .ref 3 0),(7, .i ma),(8, .ref 4 0)],5,[(0,some (.box [.sl 1 (l.map u8A), .i c1b])),(1,some (.row (keepE + 9) 1 0 (names.map strV))),(3,some (.box [.i 0, .i 0, .str [], .i 0,nilW,nilW, .i 0, .i 0, .i 0, .i 0, .i 0,nilW, .i 0, .i 0, .i 0, .i 0, .i 0,nilW,nilW])),(4,some (.box [.i 10, .i 0, .str [], .i (-1),nilW, .sl 2 (D1.map pkL), .i (Cnd.op c1a), .i (Cnd.col c1a), .i (Cnd.code c1a), .i (Cnd.lo c1a), .i (Cnd.hi c1a), .sl 6 ((Cnd.kids c1a).map cndL), .i 0, .i 0, .i 0, .i 0, .i 0,nilW,nilW]))]⟩ ?_ ?_) | (refine draw_id 15 ?_;refine draw_le (id:=15) (σ':=⟨[(0, .ref 0 0),(2, .row 1 0 names.length),(4, .iptr (sL s)),(6, .ref 3 0),(7, .i ma)],4,[(0,some (.box [.sl 1 (l.map u8A), .i q2])),(1,some (.row (keepE + 9) 1 0 (names.map strV))),(3,some (.box [.i 0, .i 0, .str [], .i 0,nilW,nilW, .i 0, .i 0, .i 0, .i 0, .i 0,nilW, .i 0, .i 0, .i 0, .i 0, .i 0,nilW,nilW]))]⟩) (le_of h0 rfl ⟨rfl,rfl,rfl,rfl,rfl,trivial⟩ ⟨rfl,⟨_,rfl⟩,rfl,trivial⟩ rfl rfl rfl) ?_;refine draw_m (id:=15) ⟨[(6, .ref 3 0)],4,[(0,some (.box [.sl 1 (l.map u8A), .i c4b])),(1,some (.row (keepE + 9) 1 0 (names.map strV))),(3,some (.box [.i 12, .i 0, .str [], .i ma,nilW,nilW, .i (Cnd.op c4a), .i (Cnd.col c4a), .i (Cnd.code c4a), .i (Cnd.lo c4a), .i (Cnd.hi c4a), .sl 6 ((Cnd.kids c4a).map cndL), .i (Cnd.op c3a), .i (Cnd.col c3a), .i (Cnd.code c3a), .i (Cnd.lo c3a), .i (Cnd.hi c3a), .sl 6 ((Cnd.kids c3a).map cndL),nilW]))]⟩ ?_ ?_) | (refine draw_id 18 ?_;refine draw_le (id:=18) (σ':=⟨[(0, .ref 0 0),(2, .row 1 0 names.length),(4, .iptr (sL s)),(6, .ref 3 0),(7, .i ma),(10, .sl 1 (x.widths.map wA))],4,[(0,some (.box [.sl 1 (l.map u8A), .i q2])),(1,some (.row (keepE + 9) 1 0 (names.map strV))),(3,some (.box [.i 0, .i 0, .str [], .i 0,nilW,nilW, .i 0, .i 0, .i 0, .i 0, .i 0,nilW, .i 0, .i 0, .i 0, .i 0, .i 0,nilW,nilW]))]⟩) (le_of h0 rfl ⟨rfl,rfl,rfl,rfl,rfl,rfl,trivial⟩ ⟨rfl,⟨_,rfl⟩,rfl,trivial⟩ rfl rfl rfl) ?_;refine draw_m (id:=18) ⟨[(6, .ref 3 0)],4,[(0,some (.box [.sl 1 (l.map u8A), .i c5b])),(1,some (.row (keepE + 9) 1 0 (names.map strV))),(3,some (.box [.i 13, .i wv, .str [], .i ma,nilW,nilW, .i (Cnd.op c5a), .i (Cnd.col c5a), .i (Cnd.code c5a), .i (Cnd.lo c5a), .i (Cnd.hi c5a), .sl 6 ((Cnd.kids c5a).map cndL), .i 0, .i 0, .i 0, .i 0, .i 0,nilW,nilW]))]⟩ ?_ ?_)) <;> (try (conv=>whnf)))
 all_goals first
  | exact le_of h0 rfl ⟨rfl,rfl,rfl,rfl,rfl,trivial⟩ ⟨rfl,⟨_,rfl⟩,rfl,rfl,trivial⟩ rfl rfl rfl
  | exact le_of h0 rfl ⟨rfl,trivial⟩ ⟨rfl,⟨_,rfl⟩,rfl,trivial⟩ rfl rfl rfl
  | (exfalso;omega)
  | (rw [if_pos (by omega),if_pos (by assumption)];exact retg_vs (rvs:=[.cell 6 xprT]) (vs:=[_]) ⟨3,_,_,rfl,rfl,inferInstance,rfl,rfl,trivial⟩ rfl rfl (le_trans (le_slot 6 (xprA (.mk 10 0 [] ma [] D1 c1a zC [])) rfl (nl_xpr (.mk 10 0 [] ma [] D1 c1a zC []) (.nil 1) (.refl _) (.refl _) (.nil 6) (.nil 19))) (le_of h0 rfl ⟨rfl,trivial⟩ ⟨rfl,⟨_,rfl⟩,trivial⟩ rfl rfl rfl)) rfl)
  | (rw [if_pos (by omega),if_neg (by assumption)];exact retg_vs (rvs:=[.cell 6 xprT]) (vs:=[_]) ⟨3,_,_,rfl,rfl,inferInstance,rfl,rfl,trivial⟩ rfl rfl (le_trans (le_slot 6 (xprA (.mk 10 0 [] (-1) [] D1 c1a zC [])) rfl (nl_xpr (.mk 10 0 [] (-1) [] D1 c1a zC []) (.nil 1) (.refl _) (.refl _) (.nil 6) (.nil 19))) (le_of h0 rfl ⟨rfl,trivial⟩ ⟨rfl,⟨_,rfl⟩,trivial⟩ rfl rfl rfl)) rfl)
  | (rw [if_neg (by omega),if_pos (by assumption),if_pos (by assumption)];exact retg_vs (rvs:=[.cell 6 xprT]) (vs:=[_]) ⟨3,_,_,rfl,rfl,inferInstance,rfl,rfl,trivial⟩ rfl rfl (le_trans (le_slot 6 (xprA (.mk 11 0 [] ma T1 [] c2a zC [])) rfl (nl_xpr (.mk 11 0 [] ma T1 [] c2a zC []) (.refl _) (.nil 2) (.refl _) (.nil 6) (.nil 19))) (le_of h0 rfl ⟨rfl,trivial⟩ ⟨rfl,⟨_,rfl⟩,trivial⟩ rfl rfl rfl)) rfl)
  | (rw [if_neg (by omega),if_pos (by assumption),if_neg (by assumption)];exact retg_vs (rvs:=[.cell 6 xprT]) (vs:=[_]) ⟨3,_,_,rfl,rfl,inferInstance,rfl,rfl,trivial⟩ rfl rfl (le_of h0 rfl ⟨rfl,trivial⟩ ⟨rfl,⟨_,rfl⟩,trivial⟩ rfl rfl rfl) rfl)
  | (rw [if_neg (by omega),if_neg (by omega),if_pos (by omega)];exact retg_vs (rvs:=[.cell 6 xprT]) (vs:=[_]) ⟨3,_,_,rfl,rfl,inferInstance,rfl,rfl,trivial⟩ rfl rfl (le_trans (le_slot 6 (xprA (.mk 12 0 [] ma [] [] c4a c3a [])) rfl (nl_xpr (.mk 12 0 [] ma [] [] c4a c3a []) (.nil 1) (.nil 2) (.refl _) (.refl _) (.nil 19))) (le_of h0 rfl ⟨rfl,trivial⟩ ⟨rfl,⟨_,rfl⟩,trivial⟩ rfl rfl rfl)) rfl)
  | (rw [if_neg (by omega),if_neg (by omega),if_neg (by omega),if_pos (by assumption)];exact retg_vs (rvs:=[.cell 6 xprT]) (vs:=[_]) ⟨3,_,_,rfl,rfl,inferInstance,rfl,rfl,trivial⟩ rfl rfl (le_trans (le_slot 6 (xprA (.mk 13 wv [] ma [] [] c5a zC [])) rfl (nl_xpr (.mk 13 wv [] ma [] [] c5a zC []) (.nil 1) (.nil 2) (.refl _) (.nil 6) (.nil 19))) (le_of h0 rfl ⟨rfl,trivial⟩ ⟨rfl,⟨_,rfl⟩,trivial⟩ rfl rfl rfl)) rfl)
  | (rw [if_neg (by omega),if_neg (by omega),if_neg (by omega),if_neg (by omega),if_pos (by assumption)];exact retg_vs (rvs:=[.cell 6 xprT]) (vs:=[_]) ⟨3,_,_,rfl,rfl,inferInstance,rfl,rfl,trivial⟩ rfl rfl (le_trans (le_slot 6 (xprA (.mk 14 0 [] ma [] [] c3a zC [])) rfl (nl_xpr (.mk 14 0 [] ma [] [] c3a zC []) (.nil 1) (.nil 2) (.refl _) (.nil 6) (.nil 19))) (le_of h0 rfl ⟨rfl,trivial⟩ ⟨rfl,⟨_,rfl⟩,trivial⟩ rfl rfl rfl)) rfl)
  | (rw [if_neg (by omega),if_neg (by omega),if_neg (by omega),if_neg (by omega),if_neg (by omega)];exact retg_vs (rvs:=[.cell 6 xprT]) (vs:=[_]) ⟨3,_,_,rfl,rfl,inferInstance,rfl,rfl,trivial⟩ rfl rfl (le_of h0 rfl ⟨rfl,trivial⟩ ⟨rfl,⟨_,rfl⟩,trivial⟩ rfl rfl rfl) rfl)
end Go.Proofs.YtjmbhlgocikfiaaGreatDoor
namespace Go.Proofs.YtjmbhlgocikfiaaGreatDoor
open Go Go.Av
attribute [local irreducible] AWp AOps AAny MAny DQ retQ retG St.le FCall GCall
set_option maxRecDepth 100000
abbrev stmT:Nat:=55
abbrev proSt (l:List UInt8) (s:Sch) (x:PrD) (n:Nat):St:=⟨[(0, .ref 0 0),(4, .iptr (sL s)),(7, .row 2 0 x.l.length),(8, .row 3 0 x.names.length),(9, .i n)],4,[(0,some (.box [.sl 1 (l.map u8A), .i x.a])),(2,some (.row stmT 21 0 (x.l.map stmL))),(3,some (.row 9 1 0 (x.names.map strV)))]⟩
end Go.Proofs.YtjmbhlgocikfiaaGreatDoor
namespace Go.Proofs.YtjmbhlgocikfiaaGreatDoor
open Go Go.Av
attribute [local irreducible] AWp AOps AAny MAny DQ retQ retG St.le FCall GCall
set_option maxRecDepth 100000
set_option maxHeartbeats 16000000 in
theorem program_drawR (l:List UInt8) (s:Sch) (hd:Drawn s) (hl:l.length ≤ 400) (a:Nat) (most:Int) (hm:0 ≤ most ∧ most ≤ 20):GCall Tryz.prog 16 1 (drB l a) [.ref 0 0,sA s, .i most] 2 [(0,some (.box [.sl 1 (l.map u8A), .i (proD l a s most).a])),(1,some (.row stmT 21 0 ((proD l a s most).l.map stmL)))] (.row 1 0 (proD l a s most).l.length):=by
 have r0:=next_call l a (most + 1) hl
 have hlt:=nxt_lt l a (n:=most + 1) (by omega)
 unfold proD
 generalize nxt l a (most + 1) = N at *
 obtain ⟨n0,a1⟩:=N
 dsimp only at r0 hlt ⊢
 generalize hZ:proF l s ⟨[],[],a1⟩ n0 = Z
 have ro:=fun b=>one_call l b 2 hl (by omega)
 have rx:=fun names hn b=>exprr_draw l s hd hl names hn b
 have ri:=fun n h=>itoa_call n h
 refine gci Tryz.func16 44 fun E h0=>?_
 repeat' ((first | refine ⟨ncall_h [0] [0] r0 rfl rfl rfl rfl rfl ⟨rfl,trivial⟩ rfl rfl rfl rfl rfl ?_⟩ |refine aops_go ?_|refine S1 ?_|refine Z1 ?_|refine Z2 ?_|(refine And.intro ?_ ?_<;>intro h<;>try first|(exfalso;omega)|exact absurd rfl h)|refine Z3 ?_|refine Z4 ?_|intro el hel hbB|intro el hel|intro ex|refine Z5 ?_|(refine free_i ?_ ?_;exact ⟨by kernel_rfl,by decide⟩)|refine allI_c ?_ ?_|exact allI_n|refine allMP_c ?_ ?_|exact allMP_n|(refine many_step ?_ ?_ ?_;kernel_rfl;kernel_rfl)) <;> (try (conv=>whnf)))
 refine loop_i (ι:=PrD × Nat) (fun x=>proSt l s x.1 x.2) (fun x=>x.1.l.length + x.2 ≤ 20 ∧ x.1.names.length ≤ x.1.l.length ∧ Z = proF l s x.1 x.2) (fun x=>x.2) (⟨[],[],a1⟩,n0) ⟨by dsimp only [List.length_nil];omega,Nat.zero_le _,hZ.symm⟩
  (le_trans (le_adopt (d:=7) (e:=stmT) (sz:=21) rfl) (le_trans (le_adopt (d:=8) (e:=9) (sz:=1) rfl) (le_of h0 rfl ⟨rfl,rfl,rfl,rfl,rfl,trivial⟩ ⟨rfl,⟨0,rfl⟩,⟨0,rfl⟩,trivial⟩ rfl rfl rfl))) (fun x hI=>?_)
 obtain ⟨⟨L,names,b⟩,n⟩:=x
 obtain ⟨hk,hnl,hI⟩:=hI
 dsimp only at hk hnl hI ⊢
 by_cases hn:n = 0
 ·subst hn
  rw [proF] at hI
  rw [hI]
  clear r0 ro rx ri
  repeat' ((first|refine aops_go ?_|refine S1 ?_|refine Z1 ?_|refine Z2 ?_|(refine And.intro ?_ ?_<;>intro h<;>try first|(exfalso;omega)|exact absurd rfl h)|refine Z3 ?_|refine Z4 ?_|intro el hel hbB|intro el hel|intro ex|refine Z5 ?_|(refine free_i ?_ ?_;exact ⟨by kernel_rfl,by decide⟩)|refine allI_c ?_ ?_|exact allI_n|refine allMP_c ?_ ?_|exact allMP_n|(refine many_step ?_ ?_ ?_;kernel_rfl;kernel_rfl)) <;> (try (conv=>whnf)))
  all_goals first
   | (exfalso;omega)
   | exact retg_tmp (le_trans (le_swp 1 2 h0 rfl rfl) (le_of h0 rfl ⟨rfl,trivial⟩ ⟨rfl,⟨_,rfl⟩,trivial⟩ rfl rfl rfl))
 ·obtain ⟨m,rfl⟩:∃ m,n = m + 1:=⟨n - 1,by omega⟩
  rw [proF] at hI
  dsimp only at hI
  have hi1:=ri L.length (by omega)
  have hil:=itoaN_length L.length
  have ho:=ro b
  generalize nxt l b 2 = o at *
  obtain ⟨o1,o2⟩:=o
  dsimp only at ho hI
  have hx:=rx names (by omega) o2
  generalize exprD l s names o2 = X at *
  obtain ⟨e,b2⟩:=X
  dsimp only at hx hI
  clear r0 ro rx ri
  rw [proN] at hI
  repeat' ((first | refine call_i hi1 ?_ | (refine side_i ?_ ?_;(show 1 + (itoaN L.length).length ≤ _;omega)) | refine ⟨ncall_h [0] [0] ho rfl rfl rfl rfl rfl ⟨rfl,trivial⟩ rfl rfl rfl rfl rfl ?_⟩ | refine ⟨ncall_h [0,3] [0,0] hx rfl rfl rfl rfl rfl ⟨rfl,rfl,trivial⟩ rfl rfl rfl rfl rfl ?_⟩ |refine aops_go ?_|refine S1 ?_|refine Z1 ?_|refine Z2 ?_|(refine And.intro ?_ ?_<;>intro h<;>try first|(exfalso;omega)|exact absurd rfl h)|refine Z3 ?_|refine Z4 ?_|intro el hel hbB|intro el hel|intro ex|refine Z5 ?_|(refine free_i ?_ ?_;exact ⟨by kernel_rfl,by decide⟩)|refine allI_c ?_ ?_|exact allI_n|refine allMP_c ?_ ?_|exact allMP_n|(refine many_step ?_ ?_ ?_;kernel_rfl;kernel_rfl) | (refine draw_id 6 ?_;refine draw_le (id:=6) (σ':=⟨[(0, .ref 0 0),(4, .iptr (sL s)),(7, .row 2 0 L.length),(8, .row 3 0 names.length),(9, .i ((m + 1:Nat):Int))],4,[(0,some (.box [.sl 1 (l.map u8A), .i b])),(2,some (.row stmT 21 0 (L.map stmL))),(3,some (.row (keepE + 9) 1 0 (names.map strV)))]⟩) (le_trans (le_keep (i:=3) rfl (by omega) (by decide)) (le_of h0 rfl ⟨rfl,rfl,rfl,rfl,rfl,trivial⟩ ⟨rfl,⟨_,rfl⟩,⟨_,rfl⟩,trivial⟩ rfl rfl rfl)) ?_;refine draw_m (id:=6) ⟨[(0, .ref 0 0),(4, .iptr (sL s)),(7, .row 2 0 L.length),(8, .row 3 0 names.length),(9, .i ((m + 1:Nat):Int)),(10, .ref 4 0)],5,[(0,some (.box [.sl 1 (l.map u8A), .i b2])),(2,some (.row stmT 21 0 (L.map stmL))),(3,some (.row 9 1 0 (names.map strV))),(4,some (.box (.str ([118] ++ itoaN L.length) :: .b (decide ((o1:Int) = 2 - 1)) :: xprX e)))]⟩ ?_ ?_)) <;> (try (conv=>whnf)))
  all_goals first
   | (exfalso;omega)
   | exact le_trans (le_unkeep (i:=3) rfl (by decide)) (le_of h0 rfl ⟨rfl,rfl,rfl,rfl,rfl,rfl,trivial⟩ ⟨rfl,⟨_,rfl⟩,⟨_,rfl⟩,rfl,trivial⟩ rfl rfl rfl)
   | (have hop:e.op < 10:=by assumption
      rw [if_pos hop] at hI
      exact ⟨(⟨L ++ [⟨[118] ++ itoaN L.length,decide ((o1:Int) = 2 - 1),e⟩],names ++ [[118] ++ itoaN L.length],b2⟩,m),⟨by dsimp only;rw [List.length_append,List.length_singleton];omega,by dsimp only;rw [List.length_append,List.length_append,List.length_singleton,List.length_singleton];omega,hI⟩,by dsimp only;omega,le_of h0 rfl ⟨rfl,rfl,congrArg (fun z:Nat=>some (AV.row 2 0 z)) (by rw [List.length_append];rfl),congrArg (fun z:Nat=>some (AV.row 3 0 z)) (by rw [List.length_append];rfl),congrArg (fun z:Int=>some (AV.i z)) (by omega),trivial⟩ ⟨rfl,⟨_,congrArg (Blk.row stmT 21 _) (by rw [List.map_append];rfl)⟩,⟨_,congrArg (Blk.row 9 1 _) (by rw [List.map_append];rfl)⟩,trivial⟩ rfl rfl rfl⟩)
   | (have hop:¬ e.op < 10:=by assumption
      rw [if_neg hop] at hI
      exact ⟨(⟨L ++ [⟨[118] ++ itoaN L.length,decide ((o1:Int) = 2 - 1),e⟩],names,b2⟩,m),⟨by dsimp only;rw [List.length_append,List.length_singleton];omega,by dsimp only;rw [List.length_append,List.length_singleton];omega,hI⟩,by dsimp only;omega,le_of h0 rfl ⟨rfl,rfl,congrArg (fun z:Nat=>some (AV.row 2 0 z)) (by rw [List.length_append];rfl),rfl,congrArg (fun z:Int=>some (AV.i z)) (by omega),trivial⟩ ⟨rfl,⟨_,congrArg (Blk.row stmT 21 _) (by rw [List.map_append];rfl)⟩,⟨_,rfl⟩,trivial⟩ rfl rfl rfl⟩)
end Go.Proofs.YtjmbhlgocikfiaaGreatDoor

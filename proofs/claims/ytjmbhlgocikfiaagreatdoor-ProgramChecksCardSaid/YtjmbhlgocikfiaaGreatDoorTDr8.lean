/- Draws: conditions. -/
import Derived.Test.YtjmbhlgocikfiaaGreatDoorTCB
import Derived.Test.YtjmbhlgocikfiaaGreatDoorTCd1
set_option linter.unusedVariables false
set_option linter.unnecessarySimpa false
set_option linter.unusedSimpArgs false
namespace Go.Proofs.YtjmbhlgocikfiaaGreatDoor
open Go Go.Av
attribute [local irreducible] AWp AOps AAny MAny DQ retQ retG St.le FCall GCall
set_option maxRecDepth 100000
theorem le_slot {E:Env} {n:Nat} {σ:St} (d:Nat) {x:AV} (y:AV) (hd:Av.look σ.sl d = some x) (hn:NL x y):St.le E n σ (σ.put d y):=by
 unfold St.le
 rintro a w ⟨θ,h⟩
 refine ⟨θ,h.size,h.defers,h.fr,fun s z hs=>?_,h.owns,h.apart,h.mine,h.X,h.base⟩
 simp only [St.put,look_cons] at hs
 by_cases e:d = s
 ·subst e
  rw [if_pos rfl] at hs
  cases hs
  exact nl_rel hn (h.slots d x hd)
 ·rw [if_neg e] at hs
  exact h.slots s z hs
def condL (l:List UInt8) (s:Sch) (a:Nat):Cnd × Nat :=
 let q:=nxt l a 5
 if (q.1:Int) = 1 then
  let k:=colD l q.2 s 2
  let n:=nxt l k.2 (lstOf s (colAt s k.1)).2.length
  (.mk 2 k.1 n.1 0 0 [],n.2)
 else if (q.1:Int) = 2 ∨ (q.1:Int) = 3 then
  let k:=colD l q.2 s 3
  let r:=nxt l k.2 44
  let h:=nxt l r.2 30
  (.mk 3 k.1 0 ((colAt s k.1).low + (-3 + r.1)) ((colAt s k.1).low + (-3 + r.1) + h.1) [],h.2)
 else if (q.1:Int) = 4 then
  let k:=colD l q.2 s 3
  (if (colAt s k.1).opt = true then .mk 4 k.1 0 0 0 [] else .mk 1 0 0 0 0 [],k.2)
 else (.mk 1 0 0 0 0 [],q.2)
def condS (l:List UInt8) (s:Sch):Nat → Nat → Cnd × Nat
 | 0,a=>condL l s a
 | d + 1,a =>
  let q:=nxt l a 5
  if (q.1:Int) = 2 then
   let x:=condS l s d q.2
   (.mk 7 0 0 0 0 [x.1],x.2)
  else if (q.1:Int) = 3 then
   let x:=condS l s d q.2
   let y:=condS l s d x.2
   (.mk 5 0 0 0 0 [x.1,y.1],y.2)
  else if (q.1:Int) = 4 then
   let x:=condS l s d q.2
   let y:=condS l s d x.2
   (.mk 6 0 0 0 0 [x.1,y.1],y.2)
  else condL l s q.2
theorem nl_leaf (o c k lo hi:Int):NL (.agg [.i o, .i c, .i k, .i lo, .i hi, .v (.slice none 0 0)]) (cndA (.mk o c k lo hi [])) :=
 nl_agg ⟨.refl _, .refl _, .refl _, .refl _, .refl _, .nil 6,trivial⟩
theorem nl_one (o:Int) (x:Cnd):NL (.agg [.i o, .i 0, .i 0, .i 0, .i 0, .sl 6 [cndX x]]) (cndA (.mk o 0 0 0 0 [x])):=by
 rw [← cndX_eq];exact .refl _
theorem nl_two (o:Int) (x y:Cnd):NL (.agg [.i o, .i 0, .i 0, .i 0, .i 0, .sl 6 [cndX x,cndX y]]) (cndA (.mk o 0 0 0 0 [x,y])):=by
 rw [← cndX_eq, ← cndX_eq];exact .refl _
abbrev cndT:Nat:=50
set_option maxHeartbeats 8000000 in
theorem cond_draw (l:List UInt8) (s:Sch) (hd:Drawn s) (hl:l.length ≤ 400) (d:Nat):∀ a:Nat,d ≤ 10 → GCall Tryz.prog 20 1 (drB l a) [.ref 0 0,sA s, .i d] 1 (drB l (condS l s d a).2) (cndA (condS l s d a).1):=by
 induction d with
 | zero =>
  intro a _
  show GCall _ _ _ _ _ _ (drB l (condL l s a).2) (cndA (condL l s a).1)
  unfold condL
  have r1:=next_call l a 5 hl
  have h5:=nxt_lt l a (n:=5) (by omega)
  generalize nxt l a 5 = q at *
  obtain ⟨q1,q2⟩:=q
  dsimp only at r1 h5 ⊢
  have r2:=coded_call l q2 s hd hl
  obtain ⟨_,k1,k2⟩:=colD_ok (l:=l) (a:=q2) hd.two.1
  generalize colD l q2 s 2 = k at *
  obtain ⟨ka,kb⟩:=k
  dsimp only at r2 k1 k2 ⊢
  obtain ⟨c,hc⟩:∃ c,s.cols[ka]? = some c:=⟨_,List.getElem?_eq_getElem k1⟩
  have hca:colAt s ka = c:=colAt_get (by simpa using hc)
  rw [hca] at k2 ⊢
  obtain ⟨hlst,_⟩:=hd.lvs hc k2
  obtain ⟨lx,hlx⟩:∃ lx,s.lists[c.lst.toNat]? = some lx:=⟨_,List.getElem?_eq_getElem (by omega)⟩
  rw [lstOf_get hlx]
  have r3:=next_call l kb lx.2.length hl
  have r4:=measured_call l q2 s hd hl
  obtain ⟨_,m1,m2⟩:=colD_ok (l:=l) (a:=q2) hd.two.2
  generalize colD l q2 s 3 = m at *
  obtain ⟨ma,mb⟩:=m
  dsimp only at r4 m1 m2 ⊢
  obtain ⟨x,hx⟩:∃ x,s.cols[ma]? = some x:=⟨_,List.getElem?_eq_getElem m1⟩
  have hxa:colAt s ma = x:=colAt_get (by simpa using hx)
  rw [hxa] at m2 ⊢
  have hxb:-4 ≤ x.low ∧ x.low ≤ 2:=by
   rcases hd.col hx with ⟨_,rfl⟩ | ⟨_,rfl | rfl⟩ | ⟨_,nm,hm⟩
   ·cases m2
   ·cases m2
   ·cases m2
   ·exact hm.low
  have r5:=range_call l mb (-3) 40 hl (by omega) (by omega) (by omega)
  rw [show (40:Int) - -3 + 1 = 44 from rfl] at r5
  have h44:=nxt_lt l mb (n:=44) (by omega)
  generalize nxt l mb 44 = r at *
  obtain ⟨ra,rb⟩:=r
  dsimp only at r5 h44 ⊢
  have r6:=next_call l rb 30 hl
  have h30:=nxt_lt l rb (n:=30) (by omega)
  generalize nxt l rb 30 = u at *
  obtain ⟨ua,ub⟩:=u
  generalize nxt l kb lx.2.length = v at *
  obtain ⟨va,vb⟩:=v
  dsimp only at r3 r6 h30 ⊢
  refine gci Tryz.func20 111 fun E h0=>?_
  repeat' ((first | refine ⟨ncall_h [0] [0] r1 rfl rfl rfl rfl rfl ⟨rfl,trivial⟩ rfl rfl rfl rfl rfl ?_⟩ | refine ⟨ncall_h [0] [0] r2 rfl rfl rfl rfl rfl ⟨rfl,trivial⟩ rfl rfl rfl rfl rfl ?_⟩ | refine ⟨ncall_h [0] [0] r3 rfl rfl rfl rfl rfl ⟨rfl,trivial⟩ rfl rfl rfl rfl rfl ?_⟩ | refine ⟨ncall_h [0] [0] r4 rfl rfl rfl rfl rfl ⟨rfl,trivial⟩ rfl rfl rfl rfl rfl ?_⟩ | refine ⟨ncall_h [0] [0] r5 rfl rfl rfl rfl rfl ⟨rfl,trivial⟩ rfl rfl rfl rfl rfl ?_⟩ | refine ⟨ncall_h [0] [0] r6 rfl rfl rfl rfl rfl ⟨rfl,trivial⟩ rfl rfl rfl rfl rfl ?_⟩ | (refine each_knownm (x:=c) hc (by omega) ?_) | (refine each_knownm (x:=lx) hlx (by omega) ?_) | (refine each_knownm (x:=x) hx (by omega) ?_) | (refine draw_id 12 ?_;refine draw_m (id:=12) ⟨[(6, .ref 2 0)],3,[(0,some (.box [.sl 1 (l.map u8A), .i vb])),(2,some (.box [.i 2, .i ka, .i va, .i 0, .i 0, .v (.slice none 0 0)]))]⟩ ?_ ?_) | (refine draw_id 16 ?_;refine draw_m (id:=16) ⟨[(0, .ref 0 0),(4, .ref 1 0),(6, .ref 2 0),(8, .i ma),(9, .i (x.low + (-3 + ra)))],3,[(0,some (.box [.sl 1 (l.map u8A), .i rb])),(1,some (.box (sL s))),(2,some (.box [.i 0, .i 0, .i 0, .i 0, .i 0, .v (.slice none 0 0)]))]⟩ ?_ ?_) |refine aops_go ?_|refine S1 ?_|refine Z1 ?_|refine Z2 ?_|(refine And.intro ?_ ?_<;>intro h<;>try first|(exfalso;omega)|exact absurd rfl h)|refine Z3 ?_|refine Z4 ?_|intro el hel hbB|intro el hel|intro ex|refine Z5 ?_|(refine free_i ?_ ?_;exact ⟨by kernel_rfl,by decide⟩)|refine allI_c ?_ ?_|exact allI_n|refine allMP_c ?_ ?_|exact allMP_n|(refine many_step ?_ ?_ ?_;kernel_rfl;kernel_rfl)) <;> (try (conv=>whnf)))
  all_goals first
   | exact le_of h0 rfl ⟨rfl,trivial⟩ ⟨rfl,rfl,trivial⟩ rfl rfl rfl
   | exact le_of h0 rfl ⟨rfl,rfl,rfl,rfl,rfl,trivial⟩ ⟨rfl,rfl,rfl,trivial⟩ rfl rfl rfl
   | (rw [if_pos (by assumption)];exact retg_vs (rvs:=[.cell 6 cndT]) (vs:=[_]) ⟨2,_,_,rfl,rfl,inferInstance,rfl,rfl,trivial⟩ rfl rfl (le_trans (le_slot 6 _ rfl (nl_leaf 2 ka va 0 0)) (le_of h0 rfl ⟨rfl,trivial⟩ ⟨rfl,trivial⟩ rfl rfl rfl)) rfl)
   | (rw [if_neg (by omega),if_pos (by omega)];exact retg_vs (rvs:=[.cell 6 cndT]) (vs:=[_]) ⟨2,_,_,rfl,rfl,inferInstance,rfl,rfl,trivial⟩ rfl rfl (le_trans (le_slot 6 _ rfl (nl_leaf 3 ma 0 (x.low + (-3 + ra)) (x.low + (-3 + ra) + ua))) (le_of h0 rfl ⟨rfl,trivial⟩ ⟨rfl,trivial⟩ rfl rfl rfl)) rfl)
   | (rw [if_neg (by omega),if_neg (by omega),if_pos (by omega),if_pos (by assumption)];exact retg_vs (rvs:=[.cell 6 cndT]) (vs:=[_]) ⟨2,_,_,rfl,rfl,inferInstance,rfl,rfl,trivial⟩ rfl rfl (le_trans (le_slot 6 _ rfl (nl_leaf 4 ma 0 0 0)) (le_of h0 rfl ⟨rfl,trivial⟩ ⟨rfl,trivial⟩ rfl rfl rfl)) rfl)
   | (rw [if_neg (by omega),if_neg (by omega),if_pos (by omega),if_neg (by assumption)];exact retg_vs (rvs:=[.cell 6 cndT]) (vs:=[_]) ⟨2,_,_,rfl,rfl,inferInstance,rfl,rfl,trivial⟩ rfl rfl (le_trans (le_slot 6 _ rfl (nl_leaf 1 0 0 0 0)) (le_of h0 rfl ⟨rfl,trivial⟩ ⟨rfl,trivial⟩ rfl rfl rfl)) rfl)
   | (rw [if_neg (by omega),if_neg (by omega),if_pos (by omega),if_neg (by rw [h];exact Bool.false_ne_true)];exact retg_vs (rvs:=[.cell 6 cndT]) (vs:=[_]) ⟨2,_,_,rfl,rfl,inferInstance,rfl,rfl,trivial⟩ rfl rfl (le_trans (le_slot 6 _ rfl (nl_leaf 1 0 0 0 0)) (le_of h0 rfl ⟨rfl,trivial⟩ ⟨rfl,trivial⟩ rfl rfl rfl)) rfl)
   | (rw [if_neg (by omega),if_neg (by omega),if_neg (by omega)];exact retg_vs (rvs:=[.cell 6 cndT]) (vs:=[_]) ⟨2,_,_,rfl,rfl,inferInstance,rfl,rfl,trivial⟩ rfl rfl (le_trans (le_slot 6 _ rfl (nl_leaf 1 0 0 0 0)) (le_of h0 rfl ⟨rfl,trivial⟩ ⟨rfl,trivial⟩ rfl rfl rfl)) rfl)
 | succ d ih =>
  intro a hd10
  have e1:(((d + 1:Nat):Int) - 1) = (d:Int):=by omega
  unfold condS condL
  have r0:=next_call l a 5 hl
  have g5:=nxt_lt l a (n:=5) (by omega)
  generalize nxt l a 5 = p at *
  obtain ⟨p1,p2⟩:=p
  dsimp only at r0 g5 ⊢
  have hX:=ih p2 (by omega)
  rw [← e1] at hX
  generalize condS l s d p2 = X at *
  obtain ⟨X1,X2⟩:=X
  dsimp only at hX ⊢
  have hY:=ih X2 (by omega)
  rw [← e1] at hY
  generalize condS l s d X2 = Y at *
  obtain ⟨Y1,Y2⟩:=Y
  dsimp only at hY ⊢
  have r1:=next_call l p2 5 hl
  have h5:=nxt_lt l a (n:=5) (by omega)
  generalize nxt l p2 5 = q at *
  obtain ⟨q1,q2⟩:=q
  dsimp only at r1 h5 ⊢
  have r2:=coded_call l q2 s hd hl
  obtain ⟨_,k1,k2⟩:=colD_ok (l:=l) (a:=q2) hd.two.1
  generalize colD l q2 s 2 = k at *
  obtain ⟨ka,kb⟩:=k
  dsimp only at r2 k1 k2 ⊢
  obtain ⟨c,hc⟩:∃ c,s.cols[ka]? = some c:=⟨_,List.getElem?_eq_getElem k1⟩
  have hca:colAt s ka = c:=colAt_get (by simpa using hc)
  rw [hca] at k2 ⊢
  obtain ⟨hlst,_⟩:=hd.lvs hc k2
  obtain ⟨lx,hlx⟩:∃ lx,s.lists[c.lst.toNat]? = some lx:=⟨_,List.getElem?_eq_getElem (by omega)⟩
  rw [lstOf_get hlx]
  have r3:=next_call l kb lx.2.length hl
  have r4:=measured_call l q2 s hd hl
  obtain ⟨_,m1,m2⟩:=colD_ok (l:=l) (a:=q2) hd.two.2
  generalize colD l q2 s 3 = m at *
  obtain ⟨ma,mb⟩:=m
  dsimp only at r4 m1 m2 ⊢
  obtain ⟨x,hx⟩:∃ x,s.cols[ma]? = some x:=⟨_,List.getElem?_eq_getElem m1⟩
  have hxa:colAt s ma = x:=colAt_get (by simpa using hx)
  rw [hxa] at m2 ⊢
  have hxb:-4 ≤ x.low ∧ x.low ≤ 2:=by
   rcases hd.col hx with ⟨_,rfl⟩ | ⟨_,rfl | rfl⟩ | ⟨_,nm,hm⟩
   ·cases m2
   ·cases m2
   ·cases m2
   ·exact hm.low
  have r5:=range_call l mb (-3) 40 hl (by omega) (by omega) (by omega)
  rw [show (40:Int) - -3 + 1 = 44 from rfl] at r5
  have h44:=nxt_lt l mb (n:=44) (by omega)
  generalize nxt l mb 44 = r at *
  obtain ⟨ra,rb⟩:=r
  dsimp only at r5 h44 ⊢
  have r6:=next_call l rb 30 hl
  have h30:=nxt_lt l rb (n:=30) (by omega)
  generalize nxt l rb 30 = u at *
  obtain ⟨ua,ub⟩:=u
  generalize nxt l kb lx.2.length = v at *
  obtain ⟨va,vb⟩:=v
  dsimp only at r3 r6 h30 ⊢
  clear ih e1
  refine gci Tryz.func20 111 fun E h0=>?_
  repeat' ((first | refine ⟨ncall_h [0] [0] r0 rfl rfl rfl rfl rfl ⟨rfl,trivial⟩ rfl rfl rfl rfl rfl ?_⟩ | refine ⟨ncall_h [0] [0] hX rfl rfl rfl rfl rfl ⟨rfl,trivial⟩ rfl rfl rfl rfl rfl ?_⟩ | refine ⟨ncall_h [0] [0] hY rfl rfl rfl rfl rfl ⟨rfl,trivial⟩ rfl rfl rfl rfl rfl ?_⟩ | (refine draw_id 6 ?_;refine draw_m (id:=6) ⟨[(6, .ref 2 0)],3,[(0,some (.box [.sl 1 (l.map u8A), .i Y2])),(2,some (.box [.i 5, .i 0, .i 0, .i 0, .i 0, .sl 6 [cndX X1,cndX Y1]]))]⟩ ?_ ?_) | (refine draw_id 8 ?_;refine draw_m (id:=8) ⟨[(6, .ref 2 0)],3,[(0,some (.box [.sl 1 (l.map u8A), .i Y2])),(2,some (.box [.i 6, .i 0, .i 0, .i 0, .i 0, .sl 6 [cndX X1,cndX Y1]]))]⟩ ?_ ?_) | refine ⟨ncall_h [0] [0] r1 rfl rfl rfl rfl rfl ⟨rfl,trivial⟩ rfl rfl rfl rfl rfl ?_⟩ | refine ⟨ncall_h [0] [0] r2 rfl rfl rfl rfl rfl ⟨rfl,trivial⟩ rfl rfl rfl rfl rfl ?_⟩ | refine ⟨ncall_h [0] [0] r3 rfl rfl rfl rfl rfl ⟨rfl,trivial⟩ rfl rfl rfl rfl rfl ?_⟩ | refine ⟨ncall_h [0] [0] r4 rfl rfl rfl rfl rfl ⟨rfl,trivial⟩ rfl rfl rfl rfl rfl ?_⟩ | refine ⟨ncall_h [0] [0] r5 rfl rfl rfl rfl rfl ⟨rfl,trivial⟩ rfl rfl rfl rfl rfl ?_⟩ | refine ⟨ncall_h [0] [0] r6 rfl rfl rfl rfl rfl ⟨rfl,trivial⟩ rfl rfl rfl rfl rfl ?_⟩ | (refine each_knownm (x:=c) hc (by omega) ?_) | (refine each_knownm (x:=lx) hlx (by omega) ?_) | (refine each_knownm (x:=x) hx (by omega) ?_) | (refine draw_id 12 ?_;refine draw_m (id:=12) ⟨[(6, .ref 2 0)],3,[(0,some (.box [.sl 1 (l.map u8A), .i vb])),(2,some (.box [.i 2, .i ka, .i va, .i 0, .i 0, .v (.slice none 0 0)]))]⟩ ?_ ?_) | (refine draw_id 16 ?_;refine draw_m (id:=16) ⟨[(0, .ref 0 0),(4, .ref 1 0),(6, .ref 2 0),(8, .i ma),(9, .i (x.low + (-3 + ra)))],3,[(0,some (.box [.sl 1 (l.map u8A), .i rb])),(1,some (.box (sL s))),(2,some (.box [.i 0, .i 0, .i 0, .i 0, .i 0, .v (.slice none 0 0)]))]⟩ ?_ ?_) |refine aops_go ?_|refine S1 ?_|refine Z1 ?_|refine Z2 ?_|(refine And.intro ?_ ?_<;>intro h<;>try first|(exfalso;omega)|exact absurd rfl h)|refine Z3 ?_|refine Z4 ?_|intro el hel hbB|intro el hel|intro ex|refine Z5 ?_|(refine free_i ?_ ?_;exact ⟨by kernel_rfl,by decide⟩)|refine allI_c ?_ ?_|exact allI_n|refine allMP_c ?_ ?_|exact allMP_n|(refine many_step ?_ ?_ ?_;kernel_rfl;kernel_rfl)) <;> (try (conv=>whnf)))
  all_goals first
   | (rw [if_pos (by assumption)];exact retg_vs (rvs:=[.cell 6 cndT]) (vs:=[_]) ⟨2,_,_,rfl,rfl,inferInstance,rfl,rfl,trivial⟩ rfl rfl (le_trans (le_slot 6 _ rfl (nl_one 7 X1)) (le_of h0 rfl ⟨rfl,trivial⟩ ⟨rfl,trivial⟩ rfl rfl rfl)) rfl)
   | (rw [if_neg (by omega),if_pos (by assumption)];exact retg_vs (rvs:=[.cell 6 cndT]) (vs:=[_]) ⟨2,_,_,rfl,rfl,inferInstance,rfl,rfl,trivial⟩ rfl rfl (le_trans (le_slot 6 _ rfl (nl_two 5 X1 Y1)) (le_of h0 rfl ⟨rfl,trivial⟩ ⟨rfl,trivial⟩ rfl rfl rfl)) rfl)
   | (rw [if_neg (by omega),if_neg (by omega),if_pos (by assumption)];exact retg_vs (rvs:=[.cell 6 cndT]) (vs:=[_]) ⟨2,_,_,rfl,rfl,inferInstance,rfl,rfl,trivial⟩ rfl rfl (le_trans (le_slot 6 _ rfl (nl_two 6 X1 Y1)) (le_of h0 rfl ⟨rfl,trivial⟩ ⟨rfl,trivial⟩ rfl rfl rfl)) rfl)
   | exact le_of h0 rfl ⟨rfl,trivial⟩ ⟨rfl,rfl,trivial⟩ rfl rfl rfl
   | exact le_of h0 rfl ⟨rfl,rfl,rfl,rfl,rfl,trivial⟩ ⟨rfl,rfl,rfl,trivial⟩ rfl rfl rfl
   | (rw [if_neg (by omega),if_neg (by omega),if_neg (by omega),if_pos (by assumption)];exact retg_vs (rvs:=[.cell 6 cndT]) (vs:=[_]) ⟨2,_,_,rfl,rfl,inferInstance,rfl,rfl,trivial⟩ rfl rfl (le_trans (le_slot 6 _ rfl (nl_leaf 2 ka va 0 0)) (le_of h0 rfl ⟨rfl,trivial⟩ ⟨rfl,trivial⟩ rfl rfl rfl)) rfl)
   | (rw [if_neg (by omega),if_neg (by omega),if_neg (by omega),if_neg (by omega),if_pos (by omega)];exact retg_vs (rvs:=[.cell 6 cndT]) (vs:=[_]) ⟨2,_,_,rfl,rfl,inferInstance,rfl,rfl,trivial⟩ rfl rfl (le_trans (le_slot 6 _ rfl (nl_leaf 3 ma 0 (x.low + (-3 + ra)) (x.low + (-3 + ra) + ua))) (le_of h0 rfl ⟨rfl,trivial⟩ ⟨rfl,trivial⟩ rfl rfl rfl)) rfl)
   | (rw [if_neg (by omega),if_neg (by omega),if_neg (by omega),if_neg (by omega),if_neg (by omega),if_pos (by omega),if_pos (by assumption)];exact retg_vs (rvs:=[.cell 6 cndT]) (vs:=[_]) ⟨2,_,_,rfl,rfl,inferInstance,rfl,rfl,trivial⟩ rfl rfl (le_trans (le_slot 6 _ rfl (nl_leaf 4 ma 0 0 0)) (le_of h0 rfl ⟨rfl,trivial⟩ ⟨rfl,trivial⟩ rfl rfl rfl)) rfl)
   | (rw [if_neg (by omega),if_neg (by omega),if_neg (by omega),if_neg (by omega),if_neg (by omega),if_pos (by omega),if_neg (by assumption)];exact retg_vs (rvs:=[.cell 6 cndT]) (vs:=[_]) ⟨2,_,_,rfl,rfl,inferInstance,rfl,rfl,trivial⟩ rfl rfl (le_trans (le_slot 6 _ rfl (nl_leaf 1 0 0 0 0)) (le_of h0 rfl ⟨rfl,trivial⟩ ⟨rfl,trivial⟩ rfl rfl rfl)) rfl)
   | (rw [if_neg (by omega),if_neg (by omega),if_neg (by omega),if_neg (by omega),if_neg (by omega),if_pos (by omega),if_neg (by rw [h];exact Bool.false_ne_true)];exact retg_vs (rvs:=[.cell 6 cndT]) (vs:=[_]) ⟨2,_,_,rfl,rfl,inferInstance,rfl,rfl,trivial⟩ rfl rfl (le_trans (le_slot 6 _ rfl (nl_leaf 1 0 0 0 0)) (le_of h0 rfl ⟨rfl,trivial⟩ ⟨rfl,trivial⟩ rfl rfl rfl)) rfl)
   | (rw [if_neg (by omega),if_neg (by omega),if_neg (by omega),if_neg (by omega),if_neg (by omega),if_neg (by omega)];exact retg_vs (rvs:=[.cell 6 cndT]) (vs:=[_]) ⟨2,_,_,rfl,rfl,inferInstance,rfl,rfl,trivial⟩ rfl rfl (le_trans (le_slot 6 _ rfl (nl_leaf 1 0 0 0 0)) (le_of h0 rfl ⟨rfl,trivial⟩ ⟨rfl,trivial⟩ rfl rfl rfl)) rfl)
end Go.Proofs.YtjmbhlgocikfiaaGreatDoor

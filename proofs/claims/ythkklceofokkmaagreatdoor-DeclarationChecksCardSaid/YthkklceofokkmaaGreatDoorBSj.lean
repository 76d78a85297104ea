/- Draws: questions and declarations: the walks. -/
import Derived.Test.YthkklceofokkmaaGreatDoorBQd0
import Derived.Test.YthkklceofokkmaaGreatDoorBF6
import Derived.Test.YthkklceofokkmaaGreatDoorBB9
import Derived.Test.YthkklceofokkmaaGreatDoorBAvTy
import Derived.Test.YthkklceofokkmaaGreatDoorBSh
import Derived.Lib.Join
import Derived.Lib.IndexMore
set_option linter.unusedVariables false
set_option linter.unnecessarySimpa false
set_option linter.unusedSimpArgs false
namespace Go.Proofs.YthkklceofokkmaaGreatDoor
open Go Go.Av
attribute [local irreducible] E5 B7 E6 E7 DQ E8 F0 St.le B3 B5
set_option maxRecDepth 100000
abbrev E9:Nat:=34
abbrev X0:Nat:=30
abbrev I4 (l:List UInt8) (a:Nat):Option H4:=some (.box [.sl 1 (l.map S6), .i a])
theorem Fl (q:D3) {A B C:AV} (ha:NL A (.sl 2 (q.dims.map P8))) (hb:NL B (.sl 1 (q.trms.map wA))) (hc:NL C (.sl 6 (q.evt.kids.map D5))) :
  NL (.agg [.str q.name, .i q.kind, .i q.flt.op, .i q.flt.col, .i q.flt.code, .i q.flt.lo, .i q.flt.hi, .sl 6 (q.flt.kids.map D5),A, .i q.mea,B, .i q.evt.op, .i q.evt.col, .i q.evt.code, .i q.evt.lo, .i q.evt.hi,C]) (W7 q) :=
 Hh ⟨.refl _, .refl _, .refl _, .refl _, .refl _, .refl _, .refl _, .refl _,ha, .refl _,hb, .refl _, .refl _, .refl _, .refl _, .refl _,hc,trivial⟩
set_option maxHeartbeats 16000000 in
theorem YK (l:List UInt8) (s:B2) (hd:F6 s) (hl:l.length ≤ 400) (nm:List UInt8) (a:Nat):B5 Tryz.prog 21 1 (D9 l a) [.ref 0 0,sA s, .str nm] 1 (D9 l (FG l s nm a).2) (W7 (FG l s nm a).1):=by
 unfold FG MN
 dsimp only
 have r0:=J9 l a 3 hl
 have hn0:=I0 l a (n:=3) (by omega)
 generalize B9 l a 3 = N at *
 obtain ⟨n0,a1⟩:=N
 dsimp only at r0 hn0 ⊢
 have r1:=Er l s hd hl n0 a1 (by omega)
 generalize K6 l s n0 a1 = c at *
 obtain ⟨c1,c2⟩:=c
 dsimp only at r1 ⊢
 have r2:=DW l c2 s hd hl
 obtain ⟨_,hm1,hm2⟩:=AC (l:=l) (a:=c2) hd.two.2
 generalize k9 l c2 s 3 = m at *
 obtain ⟨ma,mb⟩:=m
 dsimp only at r2 hm1 hm2 ⊢
 obtain ⟨x,hx⟩:∃ x,s.cols[ma]? = some x:=⟨_,List.getElem?_eq_getElem hm1⟩
 have hxa:C6 s ma = x:=E0 (by simpa using hx)
 rw [hxa]
 have r3:=J9 l mb 4 hl
 generalize B9 l mb 4 = w at *
 obtain ⟨w1,w2⟩:=w
 dsimp only at r3 ⊢
 have r4:=LL l w2 s hd hl
 generalize Ar l w2 s = D at *
 obtain ⟨D1,D2⟩:=D
 dsimp only at r4 ⊢
 have r5:=RJ l w2 s ma hd hl
 generalize DO l w2 s ma = T at *
 obtain ⟨T1,T2⟩:=T
 dsimp only at r5 ⊢
 have r6:=LL l T2 s hd hl
 generalize Ar l T2 s = F at *
 obtain ⟨F1,F2⟩:=F
 dsimp only at r6 ⊢
 have r7:=Er l s hd hl 1 w2 (by omega)
 generalize K6 l s 1 w2 = v at *
 obtain ⟨v1,v2⟩:=v
 dsimp only at r7 ⊢
 refine G3 Tryz.func21 63 fun E h0=>?_
 repeat' ((first | (refine B1 (x:=x) (by simpa using hx) (by omega) ?_) | (refine E3 1 ?_;refine H6 (id:=1) (σ':=⟨[(0, .ref 0 0),(2, .str nm),(4, .iptr (sL s)),(6, .ref 2 0)],3,[(0,I4 l a),(2,some (.box [.str [], .i 0, .i 0, .i 0, .i 0, .i 0, .i 0,C5,C5, .i 0,C5, .i 0, .i 0, .i 0, .i 0, .i 0,C5]))]⟩) (A5 h0 rfl ⟨rfl,rfl,rfl,rfl,trivial⟩ ⟨rfl,rfl,trivial⟩ rfl rfl rfl) ?_;refine F3 (id:=1) ⟨[(0, .ref 0 0),(4, .iptr (sL s)),(6, .ref 2 0),(7, .ref 3 0)],4,[(0,I4 l c2),(2,some (.box [.str [], .i 0, .i 0, .i 0, .i 0, .i 0, .i 0,C5,C5, .i 0,C5, .i 0, .i 0, .i 0, .i 0, .i 0,C5])),(3,some (.box [.str nm, .i 1, .i (A4.op c1), .i (A4.col c1), .i (A4.code c1), .i (A4.lo c1), .i (A4.hi c1), .sl 6 ((A4.kids c1).map D5),C5, .i (-1),C5, .i 0, .i 0, .i 0, .i 0, .i 0,C5]))]⟩ ?_ ?_) |refine A1 ?_|refine S1 ?_|refine Z1 ?_|refine Z2 ?_|(refine And.intro ?_ ?_<;>intro h<;>try first|(exfalso;omega)|exact absurd rfl h)|refine Z3 ?_|refine Z4 ?_|intro el hel hbB|intro el hel|intro ex|refine Z5 ?_|(refine A8 ?_ ?_;exact ⟨by kernel_rfl,by decide⟩)|refine A7 ?_ ?_|exact A6|refine A3 ?_ ?_|exact A2|(refine A0 ?_ ?_ ?_;kernel_rfl;kernel_rfl) | refine nc [0] [0] r0 rfl rfl rfl ⟨rfl,trivial⟩ ?_ | refine nc [0] [0] r1 rfl rfl rfl ⟨rfl,trivial⟩ ?_ | refine nc [0] [0] r2 rfl rfl rfl ⟨rfl,trivial⟩ ?_ | refine nc [0] [0] r3 rfl rfl rfl ⟨rfl,trivial⟩ ?_ | refine nc [0] [0] r4 rfl rfl rfl ⟨rfl,trivial⟩ ?_ | refine nc [0] [0] r5 rfl rfl rfl ⟨rfl,trivial⟩ ?_ | refine nc [0] [0] r6 rfl rfl rfl ⟨rfl,trivial⟩ ?_ | refine nc [0] [0] r7 rfl rfl rfl ⟨rfl,trivial⟩ ?_) <;> (try (conv=>whnf)))
 all_goals first
  | exact A5 h0 rfl ⟨rfl,rfl,rfl,rfl,trivial⟩ ⟨rfl,rfl,rfl,trivial⟩ rfl rfl rfl
  | (exfalso;omega)
  | (rw [if_pos (by omega)];exact D0 (rvs:=[.cell 6 E9]) (vs:=[_]) ⟨2,_,_,rfl,rfl,inferInstance,rfl,rfl,trivial⟩ rfl rfl (B8 (G8 6 (W7 ⟨nm,1,c1,D1,ma,[],zC⟩) rfl (Fl ⟨nm,1,c1,D1,ma,[],zC⟩ (.refl _) (.nil 1) (.nil 6))) (A5 h0 rfl ⟨rfl,trivial⟩ ⟨rfl,trivial⟩ rfl rfl rfl)) rfl)
  | (rw [if_neg (by omega),if_pos (by omega),if_pos (by omega)];exact D0 (rvs:=[.cell 6 E9]) (vs:=[_]) ⟨2,_,_,rfl,rfl,inferInstance,rfl,rfl,trivial⟩ rfl rfl (B8 (G8 6 (W7 ⟨nm,2,c1,[],ma,T1,zC⟩) rfl (Fl ⟨nm,2,c1,[],ma,T1,zC⟩ (.nil 2) (.refl _) (.nil 6))) (A5 h0 rfl ⟨rfl,trivial⟩ ⟨rfl,trivial⟩ rfl rfl rfl)) rfl)
  | (rw [if_neg (by omega),if_pos (by omega),if_neg (by omega)];exact D0 (rvs:=[.cell 6 E9]) (vs:=[_]) ⟨2,_,_,rfl,rfl,inferInstance,rfl,rfl,trivial⟩ rfl rfl (B8 (G8 6 (W7 ⟨nm,1,c1,F1, -1,[],zC⟩) rfl (Fl ⟨nm,1,c1,F1, -1,[],zC⟩ (.refl _) (.nil 1) (.nil 6))) (A5 h0 rfl ⟨rfl,trivial⟩ ⟨rfl,trivial⟩ rfl rfl rfl)) rfl)
  | (rw [if_neg (by omega),if_neg (by omega),if_pos (by omega),if_pos (by omega)];exact D0 (rvs:=[.cell 6 E9]) (vs:=[_]) ⟨2,_,_,rfl,rfl,inferInstance,rfl,rfl,trivial⟩ rfl rfl (B8 (G8 6 (W7 ⟨nm,3,c1,[],ma,[],v1⟩) rfl (Fl ⟨nm,3,c1,[],ma,[],v1⟩ (.nil 2) (.nil 1) (.refl _))) (A5 h0 rfl ⟨rfl,trivial⟩ ⟨rfl,trivial⟩ rfl rfl rfl)) rfl)
  | (rw [if_neg (by omega),if_neg (by omega),if_pos (by omega),if_neg (by omega)];exact D0 (rvs:=[.cell 6 E9]) (vs:=[_]) ⟨2,_,_,rfl,rfl,inferInstance,rfl,rfl,trivial⟩ rfl rfl (B8 (G8 6 (W7 ⟨nm,1,c1,D1, -1,[],zC⟩) rfl (Fl ⟨nm,1,c1,D1, -1,[],zC⟩ (.refl _) (.nil 1) (.nil 6))) (A5 h0 rfl ⟨rfl,trivial⟩ ⟨rfl,trivial⟩ rfl rfl rfl)) rfl)
  | (rw [if_neg (by omega),if_neg (by omega),if_neg (by omega)];exact D0 (rvs:=[.cell 6 E9]) (vs:=[_]) ⟨2,_,_,rfl,rfl,inferInstance,rfl,rfl,trivial⟩ rfl rfl (B8 (G8 6 (W7 ⟨nm,1,c1,D1, -1,[],zC⟩) rfl (Fl ⟨nm,1,c1,D1, -1,[],zC⟩ (.refl _) (.nil 1) (.nil 6))) (A5 h0 rfl ⟨rfl,trivial⟩ ⟨rfl,trivial⟩ rfl rfl rfl)) rfl)
set_option maxHeartbeats 32000000 in
theorem LN (l:List UInt8) (s:B2) (hd:F6 s) (hl:l.length ≤ 400) (a:Nat):B5 Tryz.prog 17 1 (D9 l a) [.ref 0 0,sA s] 2 [(0,I4 l (Q7 l s a).2),(1,some (.row E9 17 0 ((Q7 l s a).1.qs.map C4)))]
  (.agg [.str (Q7 l s a).1.prj, .str (Q7 l s a).1.src, .i (Q7 l s a).1.coh.op, .i (Q7 l s a).1.coh.col, .i (Q7 l s a).1.coh.code, .i (Q7 l s a).1.coh.lo, .i (Q7 l s a).1.coh.hi, .sl 6 ((Q7 l s a).1.coh.kids.map D5), .i (Q7 l s a).1.part, .i (Q7 l s a).1.of, .i (Q7 l s a).1.seed, .row 1 0 (Q7 l s a).1.qs.length]):=by
 generalize hZ:Q7 l s a = Z
 unfold Q7 L9 at hZ
 dsimp only at hZ
 have r0:=J9 l a 3 hl
 have hn0:=I0 l a (n:=3) (by omega)
 generalize B9 l a 3 = N at *
 obtain ⟨p1,p2⟩:=N
 dsimp only at r0 hn0 hZ
 have ri:=Bj p1 (by omega)
 have hil:=o8 p1
 have r1:=Er l s hd hl 1 p2 (by omega)
 generalize K6 l s 1 p2 = c at *
 obtain ⟨c1,c2⟩:=c
 dsimp only at r1 hZ
 have r2:=J9 l c2 999 hl
 generalize B9 l c2 999 = N at *
 obtain ⟨z1,z2⟩:=N
 dsimp only at r2 hZ
 have r3:=AY l z2 3 hl (by omega)
 generalize B9 l z2 3 = N at *
 obtain ⟨u1,u2⟩:=N
 dsimp only at r3 hZ
 have r4:=AY l u2 3 hl (by omega)
 generalize B9 l u2 3 = N at *
 obtain ⟨v1,v2⟩:=N
 dsimp only at r4 hZ
 have r5:=Y0 l v2 2 5 hl (by omega) (by omega) (by omega)
 rw [show (5:Int) - 2 + 1 = 4 from rfl] at r5
 have ho:=I0 l v2 (n:=4) (by omega)
 generalize B9 l v2 4 = N at *
 obtain ⟨o1,o2⟩:=N
 dsimp only at r5 ho hZ
 have r6:=Y0 l o2 1 (2 + (o1:Int)) hl (by omega) (by omega) (by omega)
 rw [show (2 + (o1:Int)) - 1 + 1 = 2 + (o1:Int) by omega] at r6
 generalize B9 l o2 (2 + (o1:Int)) = N at *
 obtain ⟨q1,q2⟩:=N
 dsimp only at r6 hZ
 have r7:=fun b=>Y0 l b 1 3 hl (by omega) (by omega) (by omega)
 rw [show (3:Int) - 1 + 1 = 3 from rfl] at r7
 have h7:=fun b=>I0 l b (n:=3) (by omega)
 have rq:=fun nm b=>YK l s hd hl nm b
 have rn:=fun n h=>Bj n h
 refine G3 Tryz.func17 53 fun E h0=>?_
 repeat' ((first | refine B0 ri ?_ | (refine G2 ?_ ?_;(show 1 + (M4 p1).length ≤ _;omega)) | (refine E3 1 ?_;refine H6 (id:=1) (σ':=⟨[(0, .ref 0 0),(3, .iptr (sL s)),(4, .ref 2 0)],3,[(0,I4 l a),(2,some (.box [.str [], .str [], .i 0, .i 0, .i 0, .i 0, .i 0,C5, .i 0, .i 0, .i 0,C5]))]⟩) (A5 h0 rfl ⟨rfl,rfl,rfl,trivial⟩ ⟨rfl,rfl,trivial⟩ rfl rfl rfl) ?_;refine F3 (id:=1) ⟨[(0, .ref 0 0),(3, .iptr (sL s)),(4, .ref 2 0),(5, .ref 3 0)],4,[(0,I4 l z2),(2,some (.box [.str [], .str [], .i 0, .i 0, .i 0, .i 0, .i 0,C5, .i 0, .i 0, .i 0,C5])),(3,some (.box [.str ([112] ++ M4 p1), .str [115,114,99], .i (A4.op c1), .i (A4.col c1), .i (A4.code c1), .i (A4.lo c1), .i (A4.hi c1), .sl 6 ((A4.kids c1).map D5), .i 1, .i 1, .i z1,C5]))]⟩ ?_ ?_) |refine A1 ?_|refine S1 ?_|refine Z1 ?_|refine Z2 ?_|(refine And.intro ?_ ?_<;>intro h<;>try first|(exfalso;omega)|exact absurd rfl h)|refine Z3 ?_|refine Z4 ?_|intro el hel hbB|intro el hel|intro ex|refine Z5 ?_|(refine A8 ?_ ?_;exact ⟨by kernel_rfl,by decide⟩)|refine A7 ?_ ?_|exact A6|refine A3 ?_ ?_|exact A2|(refine A0 ?_ ?_ ?_;kernel_rfl;kernel_rfl) | refine nc [0] [0] r0 rfl rfl rfl ⟨rfl,trivial⟩ ?_ | refine nc [0] [0] r1 rfl rfl rfl ⟨rfl,trivial⟩ ?_ | refine nc [0] [0] r2 rfl rfl rfl ⟨rfl,trivial⟩ ?_ | refine nc [0] [0] r3 rfl rfl rfl ⟨rfl,trivial⟩ ?_ | refine nc [0] [0] r4 rfl rfl rfl ⟨rfl,trivial⟩ ?_ | refine nc [0] [0] r5 rfl rfl rfl ⟨rfl,trivial⟩ ?_ | refine nc [0] [0] r6 rfl rfl rfl ⟨rfl,trivial⟩ ?_ | refine nc [0] [0] (r7 _) rfl rfl rfl ⟨rfl,trivial⟩ ?_) <;> (try (conv=>whnf)))
 all_goals first
  | exact A5 h0 rfl ⟨rfl,rfl,rfl,rfl,trivial⟩ ⟨rfl,rfl,rfl,trivial⟩ rfl rfl rfl
  | (exfalso;omega)
  | skip
 clear r0 ri r1 r2 r3 r4 r5 r6
 all_goals first
  | (have h8:=h7 q2;refine D8 (ι:=Nat × F4 × List D3 × Nat) (fun x=>⟨[(0, .ref 0 0),(3, .iptr (sL s)),(4, .ref 2 0),(5, .ref 3 0),(6, .i x.1)],5,[(0,I4 l x.2.2.2),(2,some (.box [.str [], .str [], .i 0, .i 0, .i 0, .i 0, .i 0,C5, .i 0, .i 0, .i 0,C5])),(3,some (.box [.str x.2.1.prj, .str x.2.1.src, .i (A4.op x.2.1.coh), .i (A4.col x.2.1.coh), .i (A4.code x.2.1.coh), .i (A4.lo x.2.1.coh), .i (A4.hi x.2.1.coh), .sl 6 ((A4.kids x.2.1.coh).map D5), .i x.2.1.part, .i x.2.1.of, .i x.2.1.seed, .row 4 0 x.2.2.1.length])),(4,some (.row E9 17 0 (x.2.2.1.map C4)))]⟩) (fun x=>x.1 + x.2.2.1.length ≤ 3 ∧ Z = ({ x.2.1 with qs:=(b7 l s x.1 x.2.2).1 },(b7 l s x.1 x.2.2).2)) (fun x=>x.1) (1 + (B9 l q2 3).1,(⟨[112] ++ M4 p1,[115,114,99],CX,1 + (q1:Int),2 + (o1:Int),z1,[]⟩,([],(B9 l q2 3).2))) ⟨by dsimp only [List.length_nil];omega,by rw [← hZ];rw [if_pos (by omega),if_pos (by omega)]⟩ (B8 (Z6 3 11 (e:=E9) (sz:=17) rfl rfl) (B8 (X5 3 [.str ([112] ++ M4 p1), .str [115,114,99], .i (A4.op CX), .i (A4.col CX), .i (A4.code CX), .i (A4.lo CX), .i (A4.hi CX), .sl 6 ((A4.kids CX).map D5), .i (1 + (q1:Int)), .i (2 + (o1:Int)), .i z1, .row 4 0 0] rfl ⟨.refl _, .refl _, .refl _, .refl _, .refl _, .refl _, .refl _, .nil 6, .refl _, .refl _, .refl _, .refl _,trivial⟩) (A5 h0 rfl ⟨rfl,rfl,rfl,rfl,congrArg (fun z:Int=>some (AV.i z)) (by dsimp only;omega),trivial⟩ ⟨rfl,rfl,rfl,⟨0,rfl⟩,trivial⟩ rfl rfl rfl))) (fun x hI=>?_))
  | (have h8:=h7 v2;refine D8 (ι:=Nat × F4 × List D3 × Nat) (fun x=>⟨[(0, .ref 0 0),(3, .iptr (sL s)),(4, .ref 2 0),(5, .ref 3 0),(6, .i x.1)],5,[(0,I4 l x.2.2.2),(2,some (.box [.str [], .str [], .i 0, .i 0, .i 0, .i 0, .i 0,C5, .i 0, .i 0, .i 0,C5])),(3,some (.box [.str x.2.1.prj, .str x.2.1.src, .i (A4.op x.2.1.coh), .i (A4.col x.2.1.coh), .i (A4.code x.2.1.coh), .i (A4.lo x.2.1.coh), .i (A4.hi x.2.1.coh), .sl 6 ((A4.kids x.2.1.coh).map D5), .i x.2.1.part, .i x.2.1.of, .i x.2.1.seed, .row 4 0 x.2.2.1.length])),(4,some (.row E9 17 0 (x.2.2.1.map C4)))]⟩) (fun x=>x.1 + x.2.2.1.length ≤ 3 ∧ Z = ({ x.2.1 with qs:=(b7 l s x.1 x.2.2).1 },(b7 l s x.1 x.2.2).2)) (fun x=>x.1) (1 + (B9 l v2 3).1,(⟨[112] ++ M4 p1,[115,114,99],CX,1,1,z1,[]⟩,([],(B9 l v2 3).2))) ⟨by dsimp only [List.length_nil];omega,by rw [← hZ];rw [if_neg (by omega),if_pos (by omega)]⟩ (B8 (Z6 3 11 (e:=E9) (sz:=17) rfl rfl) (B8 (X5 3 [.str ([112] ++ M4 p1), .str [115,114,99], .i (A4.op CX), .i (A4.col CX), .i (A4.code CX), .i (A4.lo CX), .i (A4.hi CX), .sl 6 ((A4.kids CX).map D5), .i (1), .i (1), .i z1, .row 4 0 0] rfl ⟨.refl _, .refl _, .refl _, .refl _, .refl _, .refl _, .refl _, .nil 6, .refl _, .refl _, .refl _, .refl _,trivial⟩) (A5 h0 rfl ⟨rfl,rfl,rfl,rfl,congrArg (fun z:Int=>some (AV.i z)) (by dsimp only;omega),trivial⟩ ⟨rfl,rfl,rfl,⟨0,rfl⟩,trivial⟩ rfl rfl rfl))) (fun x hI=>?_))
  | (have h8:=h7 q2;refine D8 (ι:=Nat × F4 × List D3 × Nat) (fun x=>⟨[(0, .ref 0 0),(3, .iptr (sL s)),(4, .ref 2 0),(5, .ref 3 0),(6, .i x.1)],5,[(0,I4 l x.2.2.2),(2,some (.box [.str [], .str [], .i 0, .i 0, .i 0, .i 0, .i 0,C5, .i 0, .i 0, .i 0,C5])),(3,some (.box [.str x.2.1.prj, .str x.2.1.src, .i (A4.op x.2.1.coh), .i (A4.col x.2.1.coh), .i (A4.code x.2.1.coh), .i (A4.lo x.2.1.coh), .i (A4.hi x.2.1.coh), .sl 6 ((A4.kids x.2.1.coh).map D5), .i x.2.1.part, .i x.2.1.of, .i x.2.1.seed, .row 4 0 x.2.2.1.length])),(4,some (.row E9 17 0 (x.2.2.1.map C4)))]⟩) (fun x=>x.1 + x.2.2.1.length ≤ 3 ∧ Z = ({ x.2.1 with qs:=(b7 l s x.1 x.2.2).1 },(b7 l s x.1 x.2.2).2)) (fun x=>x.1) (1 + (B9 l q2 3).1,(⟨[112] ++ M4 p1,[115,114,99],c1,1 + (q1:Int),2 + (o1:Int),z1,[]⟩,([],(B9 l q2 3).2))) ⟨by dsimp only [List.length_nil];omega,by rw [← hZ];rw [if_pos (by omega),if_neg (by omega)]⟩ (B8 (Z6 3 11 (e:=E9) (sz:=17) rfl rfl) (A5 h0 rfl ⟨rfl,rfl,rfl,rfl,congrArg (fun z:Int=>some (AV.i z)) (by dsimp only;omega),trivial⟩ ⟨rfl,rfl,rfl,⟨0,rfl⟩,trivial⟩ rfl rfl rfl)) (fun x hI=>?_))
  | (have h8:=h7 v2;refine D8 (ι:=Nat × F4 × List D3 × Nat) (fun x=>⟨[(0, .ref 0 0),(3, .iptr (sL s)),(4, .ref 2 0),(5, .ref 3 0),(6, .i x.1)],5,[(0,I4 l x.2.2.2),(2,some (.box [.str [], .str [], .i 0, .i 0, .i 0, .i 0, .i 0,C5, .i 0, .i 0, .i 0,C5])),(3,some (.box [.str x.2.1.prj, .str x.2.1.src, .i (A4.op x.2.1.coh), .i (A4.col x.2.1.coh), .i (A4.code x.2.1.coh), .i (A4.lo x.2.1.coh), .i (A4.hi x.2.1.coh), .sl 6 ((A4.kids x.2.1.coh).map D5), .i x.2.1.part, .i x.2.1.of, .i x.2.1.seed, .row 4 0 x.2.2.1.length])),(4,some (.row E9 17 0 (x.2.2.1.map C4)))]⟩) (fun x=>x.1 + x.2.2.1.length ≤ 3 ∧ Z = ({ x.2.1 with qs:=(b7 l s x.1 x.2.2).1 },(b7 l s x.1 x.2.2).2)) (fun x=>x.1) (1 + (B9 l v2 3).1,(⟨[112] ++ M4 p1,[115,114,99],c1,1,1,z1,[]⟩,([],(B9 l v2 3).2))) ⟨by dsimp only [List.length_nil];omega,by rw [← hZ];rw [if_neg (by omega),if_neg (by omega)]⟩ (B8 (Z6 3 11 (e:=E9) (sz:=17) rfl rfl) (A5 h0 rfl ⟨rfl,rfl,rfl,rfl,congrArg (fun z:Int=>some (AV.i z)) (by dsimp only;omega),trivial⟩ ⟨rfl,rfl,rfl,⟨0,rfl⟩,trivial⟩ rfl rfl rfl)) (fun x hI=>?_))
 all_goals
  clear hZ
  obtain ⟨k,d,Q,b⟩:=x
  obtain ⟨hk,hI⟩:=hI
  dsimp only at hk hI ⊢
  by_cases hn:k = 0
 all_goals first
  | subst hn
    rw [b7] at hI
    dsimp only at hI
    clear rq rn r7 h7
    rw [hI]
    repeat' ((first|refine A1 ?_|refine S1 ?_|refine Z1 ?_|refine Z2 ?_|(refine And.intro ?_ ?_<;>intro h<;>try first|(exfalso;omega)|exact absurd rfl h)|refine Z3 ?_|refine Z4 ?_|intro el hel hbB|intro el hel|intro ex|refine Z5 ?_|(refine A8 ?_ ?_;exact ⟨by kernel_rfl,by decide⟩)|refine A7 ?_ ?_|exact A6|refine A3 ?_ ?_|exact A2|(refine A0 ?_ ?_ ?_;kernel_rfl;kernel_rfl)) <;> (try (conv=>whnf)))
  | skip
 all_goals first
  | (exfalso;omega)
  | exact D0 (rvs:=[.cell 4 X0]) (vs:=[_]) ⟨2,_,_,rfl,rfl,inferInstance,rfl,rfl,trivial⟩ rfl rfl (B8 (FV 1 4 h0 rfl rfl) (A5 h0 rfl ⟨rfl,trivial⟩ ⟨rfl,⟨_,rfl⟩,trivial⟩ rfl rfl rfl)) rfl
  | skip
 all_goals
  obtain ⟨m,rfl⟩:∃ m,k = m + 1:=⟨k - 1,by omega⟩
  rw [b7] at hI
  dsimp only at hI
  have hi1:=rn (m + 1) (by omega)
  have hil2:=o8 (m + 1)
  have hq:=rq ([113] ++ M4 (m + 1)) b
  generalize FG l s ([113] ++ M4 (m + 1)) b = X at *
  obtain ⟨q,b2⟩:=X
  dsimp only at hq hI
  clear rq rn r7 h7
  repeat' ((first | refine B0 hi1 ?_ | (refine G2 ?_ ?_;(show 1 + (M4 (m + 1)).length ≤ _;omega)) | (refine E3 10 ?_;refine F3 (id:=10) ⟨[(0, .ref 0 0),(3, .iptr (sL s)),(4, .ref 2 0),(5, .ref 3 0),(6, .i ((m + 1:Nat):Int))],5,[(0,I4 l b2),(2,some (.box [.str [], .str [], .i 0, .i 0, .i 0, .i 0, .i 0,C5, .i 0, .i 0, .i 0,C5])),(3,some (.box [.str d.prj, .str d.src, .i (A4.op d.coh), .i (A4.col d.coh), .i (A4.code d.coh), .i (A4.lo d.coh), .i (A4.hi d.coh), .sl 6 ((A4.kids d.coh).map D5), .i d.part, .i d.of, .i d.seed, .row 4 0 (Q ++ [q]).length])),(4,some (.row E9 17 0 ((Q ++ [q]).map C4)))]⟩ ?_ ?_) |refine A1 ?_|refine S1 ?_|refine Z1 ?_|refine Z2 ?_|(refine And.intro ?_ ?_<;>intro h<;>try first|(exfalso;omega)|exact absurd rfl h)|refine Z3 ?_|refine Z4 ?_|intro el hel hbB|intro el hel|intro ex|refine Z5 ?_|(refine A8 ?_ ?_;exact ⟨by kernel_rfl,by decide⟩)|refine A7 ?_ ?_|exact A6|refine A3 ?_ ?_|exact A2|(refine A0 ?_ ?_ ?_;kernel_rfl;kernel_rfl) | refine nc [0] [0] hq rfl rfl rfl ⟨rfl,trivial⟩ ?_) <;> (try (conv=>whnf)))
 all_goals first
  | (exfalso;omega)
  | exact A5 h0 rfl ⟨rfl,rfl,rfl,rfl,rfl,trivial⟩ ⟨rfl,rfl,congrArg (fun z=>H4.box [.str d.prj, .str d.src, .i (A4.op d.coh), .i (A4.col d.coh), .i (A4.code d.coh), .i (A4.lo d.coh), .i (A4.hi d.coh), .sl 6 ((A4.kids d.coh).map D5), .i d.part, .i d.of, .i d.seed, .row 4 0 z]) (by rw [List.length_append];rfl),⟨_,congrArg (H4.row E9 17 _) (by rw [List.map_append];rfl)⟩,trivial⟩ rfl rfl rfl
  | exact ⟨(m,d,Q ++ [q],b2),⟨by dsimp only;rw [List.length_append,List.length_singleton];omega,hI⟩,by dsimp only;omega,A5 h0 rfl ⟨rfl,rfl,rfl,rfl,congrArg (fun z:Int=>some (AV.i z)) (by omega),trivial⟩ ⟨rfl,rfl,rfl,⟨_,rfl⟩,trivial⟩ rfl rfl rfl⟩
theorem NN (l:List UInt8) (s:B2) (hd:F6 s) (hl:l.length ≤ 400) (a:Nat):B5 Tryz.prog 17 1 (D9 l a) [.ref 0 0,sA s] 1 (D9 l (Q7 l s a).2) (M5 (Q7 l s a).1) :=
 Pz (LN l s hd hl a) rfl fun E h0=>A5 h0 rfl ⟨rfl,trivial⟩ ⟨rfl,trivial⟩ rfl rfl rfl
end Go.Proofs.YthkklceofokkmaaGreatDoor
namespace Go.Proofs.YthkklceofokkmaaGreatDoor
open Go Go.Av Go.RowKit Go.Lib
set_option maxRecDepth 100000
abbrev O1 (z:List UInt8):List AV:=[.str z]
theorem v7 (t sep:List UInt8) (ht:t.length < 4294967281):B3 Tryz.prog 49 [.str t, .str sep] (.tup [.str (Lib.cut t sep).1, .str (Lib.cut t sep).2.1, .b (Lib.cut t sep).2.2]):=by
 refine ⟨⟨Tryz.f49,Tryz.func49,by kernel_rfl,by kernel_rfl⟩,fun X w vs hX htb hl hv=>?_⟩
 match vs,hl with
 | [y,z],_ =>
   have hv0:=hv 0 _ y rfl rfl
   have hv1:=hv 1 _ z rfl rfl
   cases hv0
   cases hv1
   obtain ⟨_,m,tt,fr,he⟩:=htb.num 0 (by decide)
   refine Calls.mono (Tryz.strings_Cut ⟨t.toArray⟩ ⟨sep.toArray⟩ m w ht (by unfold World.cell?;simp [he])) ?_
   rintro e w' ⟨rfl,n,rfl⟩
   refine ⟨_,rfl, .tup _ [.string _, .string _, .bool _] rfl fun j x c hx hc=>?_,⟨rfl,rfl,rfl,Nat.le_refl _,fun _ _=>rfl⟩⟩
   match j,hx,hc with
   | 0,hx,hc=>cases hx;cases hc;exact .str _
   | 1,hx,hc=>cases hx;cases hc;exact .str _
   | 2,hx,hc=>cases hx;cases hc;exact .v _
end Go.Proofs.YthkklceofokkmaaGreatDoor

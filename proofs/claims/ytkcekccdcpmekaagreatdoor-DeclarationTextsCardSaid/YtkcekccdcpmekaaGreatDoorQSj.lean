/- Draws: questions and declarations: the walks. -/
import Derived.Test.YtkcekccdcpmekaaGreatDoorQQd0
import Derived.Test.YtkcekccdcpmekaaGreatDoorQF6
import Derived.Test.YtkcekccdcpmekaaGreatDoorQB10
import Derived.Test.YtkcekccdcpmekaaGreatDoorQAvTy
import Derived.Test.YtkcekccdcpmekaaGreatDoorQSh
import Derived.Lib.Join
import Derived.Lib.IndexMore
set_option linter.unusedVariables false
set_option linter.unnecessarySimpa false
set_option linter.unusedSimpArgs false
set_option maxHeartbeats 64000000
namespace Go.Proofs.YtkcekccdcpmekaaGreatDoor
open Go Go.Av
attribute [local irreducible] E8 B5 E5 E1 DQ E7 E9 St.le A4 A9
set_option maxRecDepth 100000
abbrev D7:Nat:=36
abbrev P9:Nat:=48
abbrev J4(l:List UInt8)(a:Nat):Option G1:=some (.box [.sl 1 (l.map X9),.i a])
theorem AD(q:E3){A B C:AV}(ha:NL A (.sl 2 (q.dims.map N7)))(hb:NL B (.sl 1 (q.trms.map wA)))(hc:NL C (.sl 6 (q.evt.kids.map C3))):
  NL (.agg [.str q.name,.i q.kind,.i q.flt.op,.i q.flt.col,.i q.flt.code,.i q.flt.lo,.i q.flt.hi,.sl 6 (q.flt.kids.map C3),A,.i q.mea,B,.i q.evt.op,.i q.evt.col,.i q.evt.code,.i q.evt.lo,.i q.evt.hi,C]) (O9 q) :=
 HA ⟨.refl _,.refl _,.refl _,.refl _,.refl _,.refl _,.refl _,.refl _,ha,.refl _,hb,.refl _,.refl _,.refl _,.refl _,.refl _,hc,trivial⟩
theorem ao(l:List UInt8)(s:A5)(hd:F7 s)(hl:l.length≤400)(nm:List UInt8)(a:Nat):A9 Tryz.prog 7 1 (E6 l a) [.ref 0 0,sA s,.str nm] 1 (E6 l (GZ l s nm a).2) (O9 (GZ l s nm a).1):=by
 unfold GZ Nu
 dsimp only
 have r0:=K8 l a 3 hl
 have ru:=I7 l a (n:=3) (by omega)
 generalize B8 l a 3=N at *
 obtain⟨n0,a1⟩:=N
 dsimp only at r0 ru ⊢
 have r1:=GH l s hd hl n0 a1 (by omega)
 generalize L9 l s n0 a1=c at *
 obtain⟨c1,c2⟩:=c
 dsimp only at r1 ⊢
 have r2:=Ek l c2 s hd hl
 obtain⟨_,hm1,tj⟩:=BL (l:=l) (a:=c2) hd.two.2
 generalize AN l c2 s 3=m at *
 obtain⟨ma,mb⟩:=m
 dsimp only at r2 hm1 tj ⊢
 obtain⟨x,hx⟩:∃x,s.cols[ma]?=some x:=⟨_,List.getElem?_eq_getElem hm1⟩
 have pK:C7 s ma=x:=D4 (by simpa using hx)
 rw[pK]
 have r3:=K8 l mb 4 hl
 generalize B8 l mb 4=w at *
 obtain⟨w1,w2⟩:=w
 dsimp only at r3 ⊢
 have r4:=Mr l w2 s hd hl
 generalize CD l w2 s=D at *
 obtain⟨D1,D2⟩:=D
 dsimp only at r4 ⊢
 have r5:=TN l w2 s ma hd hl
 generalize Ec l w2 s ma=T at *
 obtain⟨T1,T2⟩:=T
 dsimp only at r5 ⊢
 have r6:=Mr l T2 s hd hl
 generalize CD l T2 s=F at *
 obtain⟨F1,F2⟩:=F
 dsimp only at r6 ⊢
 have r7:=GH l s hd hl 1 w2 (by omega)
 generalize L9 l s 1 w2=v at *
 obtain⟨v1,v2⟩:=v
 dsimp only at r7 ⊢
 refine G4 Tryz.func7 63 fun E h0=>?_
 repeat'((first|(refine A2 (x:=x) (by simpa using hx) (by omega) ?_)|(refine B6 1 ?_;refine F5 (id:=1) (σ':=⟨[(0,.ref 0 0),(2,.str nm),(4,.iptr (sL s)),(6,.ref 2 0)],3,[(0,J4 l a),(2,some (.box [.str [],.i 0,.i 0,.i 0,.i 0,.i 0,.i 0,A6,A6,.i 0,A6,.i 0,.i 0,.i 0,.i 0,.i 0,A6]))]⟩) (B2 h0) ?_;refine C5 (id:=1) ⟨[(0,.ref 0 0),(4,.iptr (sL s)),(6,.ref 2 0),(7,.ref 3 0)],4,[(0,J4 l c2),(2,some (.box [.str [],.i 0,.i 0,.i 0,.i 0,.i 0,.i 0,A6,A6,.i 0,A6,.i 0,.i 0,.i 0,.i 0,.i 0,A6])),(3,some (.box [.str nm,.i 1,.i (A1.op c1),.i (A1.col c1),.i (A1.code c1),.i (A1.lo c1),.i (A1.hi c1),.sl 6 ((A1.kids c1).map C3),A6,.i (-1),A6,.i 0,.i 0,.i 0,.i 0,.i 0,A6]))]⟩ ?_ ?_) |refine S2 ?_|(refine T6 ?_ ?_<;>intro h<;>try exact V1 h)|intro el ke kg|intro el ke|exact T4|refine T5 ?_ ?_|intro ex|refine nc [0] [0] r0 rfl rfl rfl ⟨rfl,trivial⟩ ?_|refine nc [0] [0] r1 rfl rfl rfl ⟨rfl,trivial⟩ ?_|refine nc [0] [0] r2 rfl rfl rfl ⟨rfl,trivial⟩ ?_|refine nc [0] [0] r3 rfl rfl rfl ⟨rfl,trivial⟩ ?_|refine nc [0] [0] r4 rfl rfl rfl ⟨rfl,trivial⟩ ?_|refine nc [0] [0] r5 rfl rfl rfl ⟨rfl,trivial⟩ ?_|refine nc [0] [0] r6 rfl rfl rfl ⟨rfl,trivial⟩ ?_|refine nc [0] [0] r7 rfl rfl rfl ⟨rfl,trivial⟩ ?_)<;>try conv=>whnf)
 all_goals first
  |exact B0 h0 rfl ⟨rfl,rfl,rfl,rfl,trivial⟩ ⟨rfl,rfl,rfl,trivial⟩ rfl rfl rfl
  |(exfalso;omega)
  |(rw[if_pos (by omega)];exact C9 (rvs:=[.cell 6 D7]) (vs:=[_]) ⟨2,_,_,rfl,rfl,inferInstance,rfl,rfl,trivial⟩ rfl rfl (B4 (H4 6 (O9 ⟨nm,1,c1,D1,ma,[],zC⟩) rfl (AD ⟨nm,1,c1,D1,ma,[],zC⟩ (.refl _) (.nil 1) (.nil 6))) (B2 h0)) rfl)
  |(rw[if_neg (by omega),if_pos (by omega),if_pos (by omega)];exact C9 (rvs:=[.cell 6 D7]) (vs:=[_]) ⟨2,_,_,rfl,rfl,inferInstance,rfl,rfl,trivial⟩ rfl rfl (B4 (H4 6 (O9 ⟨nm,2,c1,[],ma,T1,zC⟩) rfl (AD ⟨nm,2,c1,[],ma,T1,zC⟩ (.nil 2) (.refl _) (.nil 6))) (B2 h0)) rfl)
  |(rw[if_neg (by omega),if_pos (by omega),if_neg (by omega)];exact C9 (rvs:=[.cell 6 D7]) (vs:=[_]) ⟨2,_,_,rfl,rfl,inferInstance,rfl,rfl,trivial⟩ rfl rfl (B4 (H4 6 (O9 ⟨nm,1,c1,F1,-1,[],zC⟩) rfl (AD ⟨nm,1,c1,F1,-1,[],zC⟩ (.refl _) (.nil 1) (.nil 6))) (B2 h0)) rfl)
  |(rw[if_neg (by omega),if_neg (by omega),if_pos (by omega),if_pos (by omega)];exact C9 (rvs:=[.cell 6 D7]) (vs:=[_]) ⟨2,_,_,rfl,rfl,inferInstance,rfl,rfl,trivial⟩ rfl rfl (B4 (H4 6 (O9 ⟨nm,3,c1,[],ma,[],v1⟩) rfl (AD ⟨nm,3,c1,[],ma,[],v1⟩ (.nil 2) (.nil 1) (.refl _))) (B2 h0)) rfl)
  |(rw[if_neg (by omega),if_neg (by omega),if_pos (by omega),if_neg (by omega)];exact C9 (rvs:=[.cell 6 D7]) (vs:=[_]) ⟨2,_,_,rfl,rfl,inferInstance,rfl,rfl,trivial⟩ rfl rfl (B4 (H4 6 (O9 ⟨nm,1,c1,D1,-1,[],zC⟩) rfl (AD ⟨nm,1,c1,D1,-1,[],zC⟩ (.refl _) (.nil 1) (.nil 6))) (B2 h0)) rfl)
  |(rw[if_neg (by omega),if_neg (by omega),if_neg (by omega)];exact C9 (rvs:=[.cell 6 D7]) (vs:=[_]) ⟨2,_,_,rfl,rfl,inferInstance,rfl,rfl,trivial⟩ rfl rfl (B4 (H4 6 (O9 ⟨nm,1,c1,D1,-1,[],zC⟩) rfl (AD ⟨nm,1,c1,D1,-1,[],zC⟩ (.refl _) (.nil 1) (.nil 6))) (B2 h0)) rfl)
theorem Mt(l:List UInt8)(s:A5)(hd:F7 s)(hl:l.length≤400)(a:Nat):A9 Tryz.prog 13 1 (E6 l a) [.ref 0 0,sA s] 2 [(0,J4 l (U7 l s a).2),(1,some (.row D7 17 0 ((U7 l s a).1.qs.map C0)))]
  (.agg [.str (U7 l s a).1.prj,.str (U7 l s a).1.src,.i (U7 l s a).1.coh.op,.i (U7 l s a).1.coh.col,.i (U7 l s a).1.coh.code,.i (U7 l s a).1.coh.lo,.i (U7 l s a).1.coh.hi,.sl 6 ((U7 l s a).1.coh.kids.map C3),.i (U7 l s a).1.part,.i (U7 l s a).1.of,.i (U7 l s a).1.seed,.row 1 0 (U7 l s a).1.qs.length]):=by
 generalize hZ:U7 l s a=Z
 unfold U7 N0 at hZ
 dsimp only at hZ
 have r0:=K8 l a 3 hl
 have ru:=I7 l a (n:=3) (by omega)
 generalize B8 l a 3=N at *
 obtain⟨p1,p2⟩:=N
 dsimp only at r0 ru hZ
 have ri:=Cv p1 (by omega)
 have sK:=Ak p1
 have r1:=GH l s hd hl 1 p2 (by omega)
 generalize L9 l s 1 p2=c at *
 obtain⟨c1,c2⟩:=c
 dsimp only at r1 hZ
 have r2:=K8 l c2 999 hl
 generalize B8 l c2 999=N at *
 obtain⟨z1,z2⟩:=N
 dsimp only at r2 hZ
 have r3:=Bj l z2 3 hl (by omega)
 generalize B8 l z2 3=N at *
 obtain⟨u1,u2⟩:=N
 dsimp only at r3 hZ
 have r4:=Bj l u2 3 hl (by omega)
 generalize B8 l u2 3=N at *
 obtain⟨v1,v2⟩:=N
 dsimp only at r4 hZ
 have r5:=p0 l v2 2 5 hl (by omega) (by omega) (by omega)
 rw[show (5:Int)-2+1=4 from rfl]at r5
 have ho:=I7 l v2 (n:=4) (by omega)
 generalize B8 l v2 4=N at *
 obtain⟨o1,o2⟩:=N
 dsimp only at r5 ho hZ
 have r6:=p0 l o2 1 (2+(o1:Int)) hl (by omega) (by omega) (by omega)
 rw[show (2+(o1:Int))-1+1=2+(o1:Int) by omega]at r6
 generalize B8 l o2 (2+(o1:Int))=N at *
 obtain⟨q1,q2⟩:=N
 dsimp only at r6 hZ
 have r7:=fun b=>p0 l b 1 3 hl (by omega) (by omega) (by omega)
 rw[show (3:Int)-1+1=3 from rfl]at r7
 have h7:=fun b=>I7 l b (n:=3) (by omega)
 have rq:=fun nm b=>ao l s hd hl nm b
 have rn:=fun n h=>Cv n h
 refine G4 Tryz.func13 53 fun E h0=>?_
 repeat'((first|refine A0 ri ?_|(refine E0 ?_ ?_;(show 1+(O0 p1).length≤_;omega))|(refine B6 1 ?_;refine F5 (id:=1) (σ':=⟨[(0,.ref 0 0),(3,.iptr (sL s)),(4,.ref 2 0)],3,[(0,J4 l a),(2,some (.box [.str [],.str [],.i 0,.i 0,.i 0,.i 0,.i 0,A6,.i 0,.i 0,.i 0,A6]))]⟩) (B2 h0) ?_;refine C5 (id:=1) ⟨[(0,.ref 0 0),(3,.iptr (sL s)),(4,.ref 2 0),(5,.ref 3 0)],4,[(0,J4 l z2),(2,some (.box [.str [],.str [],.i 0,.i 0,.i 0,.i 0,.i 0,A6,.i 0,.i 0,.i 0,A6])),(3,some (.box [.str ([112]++O0 p1),.str [115,114,99],.i (A1.op c1),.i (A1.col c1),.i (A1.code c1),.i (A1.lo c1),.i (A1.hi c1),.sl 6 ((A1.kids c1).map C3),.i 1,.i 1,.i z1,A6]))]⟩ ?_ ?_) |refine S2 ?_|(refine T6 ?_ ?_<;>intro h<;>try exact V1 h)|intro el ke kg|intro el ke|exact T4|refine T5 ?_ ?_|intro ex|refine nc [0] [0] r0 rfl rfl rfl ⟨rfl,trivial⟩ ?_|refine nc [0] [0] r1 rfl rfl rfl ⟨rfl,trivial⟩ ?_|refine nc [0] [0] r2 rfl rfl rfl ⟨rfl,trivial⟩ ?_|refine nc [0] [0] r3 rfl rfl rfl ⟨rfl,trivial⟩ ?_|refine nc [0] [0] r4 rfl rfl rfl ⟨rfl,trivial⟩ ?_|refine nc [0] [0] r5 rfl rfl rfl ⟨rfl,trivial⟩ ?_|refine nc [0] [0] r6 rfl rfl rfl ⟨rfl,trivial⟩ ?_|refine nc [0] [0] (r7 _) rfl rfl rfl ⟨rfl,trivial⟩ ?_)<;>try conv=>whnf)
 all_goals first
  |exact B0 h0 rfl ⟨rfl,rfl,rfl,rfl,trivial⟩ ⟨rfl,rfl,rfl,trivial⟩ rfl rfl rfl
  |(exfalso;omega)
  |skip
 clear r0 ri r1 r2 r3 r4 r5 r6
 all_goals first
  |(have h8:=h7 q2;refine D5 (ι:=Nat×G0×List E3×Nat) (fun x=>⟨[(0,.ref 0 0),(3,.iptr (sL s)),(4,.ref 2 0),(5,.ref 3 0),(6,.i x.1)],5,[(0,J4 l x.2.2.2),(2,some (.box [.str [],.str [],.i 0,.i 0,.i 0,.i 0,.i 0,A6,.i 0,.i 0,.i 0,A6])),(3,some (.box [.str x.2.1.prj,.str x.2.1.src,.i (A1.op x.2.1.coh),.i (A1.col x.2.1.coh),.i (A1.code x.2.1.coh),.i (A1.lo x.2.1.coh),.i (A1.hi x.2.1.coh),.sl 6 ((A1.kids x.2.1.coh).map C3),.i x.2.1.part,.i x.2.1.of,.i x.2.1.seed,.row 4 0 x.2.2.1.length])),(4,some (.row D7 17 0 (x.2.2.1.map C0)))]⟩) (fun x=>x.1+x.2.2.1.length≤3∧Z=({ x.2.1 with qs:=(v8 l s x.1 x.2.2).1 },(v8 l s x.1 x.2.2).2)) (fun x=>x.1) (1+(B8 l q2 3).1,(⟨[112]++O0 p1,[115,114,99],Di,1+(q1:Int),2+(o1:Int),z1,[]⟩,([],(B8 l q2 3).2))) ⟨by dsimp only[List.length_nil];omega,by rw[←hZ];rw[if_pos (by omega),if_pos (by omega)]⟩ (B4 (U9 3 11 (e:=D7) (sz:=17) rfl rfl) (B4 (a8 3 [.str ([112]++O0 p1),.str [115,114,99],.i (A1.op Di),.i (A1.col Di),.i (A1.code Di),.i (A1.lo Di),.i (A1.hi Di),.sl 6 ((A1.kids Di).map C3),.i (1+(q1:Int)),.i (2+(o1:Int)),.i z1,.row 4 0 0] rfl ⟨.refl _,.refl _,.refl _,.refl _,.refl _,.refl _,.refl _,.nil 6,.refl _,.refl _,.refl _,.refl _,trivial⟩) (B0 h0 rfl ⟨rfl,rfl,rfl,rfl,congrArg (fun z:Int=>some (AV.i z)) (by dsimp only;omega),trivial⟩ ⟨rfl,rfl,rfl,⟨0,rfl⟩,trivial⟩ rfl rfl rfl))) (fun x hI=>?_))
  |(have h8:=h7 v2;refine D5 (ι:=Nat×G0×List E3×Nat) (fun x=>⟨[(0,.ref 0 0),(3,.iptr (sL s)),(4,.ref 2 0),(5,.ref 3 0),(6,.i x.1)],5,[(0,J4 l x.2.2.2),(2,some (.box [.str [],.str [],.i 0,.i 0,.i 0,.i 0,.i 0,A6,.i 0,.i 0,.i 0,A6])),(3,some (.box [.str x.2.1.prj,.str x.2.1.src,.i (A1.op x.2.1.coh),.i (A1.col x.2.1.coh),.i (A1.code x.2.1.coh),.i (A1.lo x.2.1.coh),.i (A1.hi x.2.1.coh),.sl 6 ((A1.kids x.2.1.coh).map C3),.i x.2.1.part,.i x.2.1.of,.i x.2.1.seed,.row 4 0 x.2.2.1.length])),(4,some (.row D7 17 0 (x.2.2.1.map C0)))]⟩) (fun x=>x.1+x.2.2.1.length≤3∧Z=({ x.2.1 with qs:=(v8 l s x.1 x.2.2).1 },(v8 l s x.1 x.2.2).2)) (fun x=>x.1) (1+(B8 l v2 3).1,(⟨[112]++O0 p1,[115,114,99],Di,1,1,z1,[]⟩,([],(B8 l v2 3).2))) ⟨by dsimp only[List.length_nil];omega,by rw[←hZ];rw[if_neg (by omega),if_pos (by omega)]⟩ (B4 (U9 3 11 (e:=D7) (sz:=17) rfl rfl) (B4 (a8 3 [.str ([112]++O0 p1),.str [115,114,99],.i (A1.op Di),.i (A1.col Di),.i (A1.code Di),.i (A1.lo Di),.i (A1.hi Di),.sl 6 ((A1.kids Di).map C3),.i (1),.i (1),.i z1,.row 4 0 0] rfl ⟨.refl _,.refl _,.refl _,.refl _,.refl _,.refl _,.refl _,.nil 6,.refl _,.refl _,.refl _,.refl _,trivial⟩) (B0 h0 rfl ⟨rfl,rfl,rfl,rfl,congrArg (fun z:Int=>some (AV.i z)) (by dsimp only;omega),trivial⟩ ⟨rfl,rfl,rfl,⟨0,rfl⟩,trivial⟩ rfl rfl rfl))) (fun x hI=>?_))
  |(have h8:=h7 q2;refine D5 (ι:=Nat×G0×List E3×Nat) (fun x=>⟨[(0,.ref 0 0),(3,.iptr (sL s)),(4,.ref 2 0),(5,.ref 3 0),(6,.i x.1)],5,[(0,J4 l x.2.2.2),(2,some (.box [.str [],.str [],.i 0,.i 0,.i 0,.i 0,.i 0,A6,.i 0,.i 0,.i 0,A6])),(3,some (.box [.str x.2.1.prj,.str x.2.1.src,.i (A1.op x.2.1.coh),.i (A1.col x.2.1.coh),.i (A1.code x.2.1.coh),.i (A1.lo x.2.1.coh),.i (A1.hi x.2.1.coh),.sl 6 ((A1.kids x.2.1.coh).map C3),.i x.2.1.part,.i x.2.1.of,.i x.2.1.seed,.row 4 0 x.2.2.1.length])),(4,some (.row D7 17 0 (x.2.2.1.map C0)))]⟩) (fun x=>x.1+x.2.2.1.length≤3∧Z=({ x.2.1 with qs:=(v8 l s x.1 x.2.2).1 },(v8 l s x.1 x.2.2).2)) (fun x=>x.1) (1+(B8 l q2 3).1,(⟨[112]++O0 p1,[115,114,99],c1,1+(q1:Int),2+(o1:Int),z1,[]⟩,([],(B8 l q2 3).2))) ⟨by dsimp only[List.length_nil];omega,by rw[←hZ];rw[if_pos (by omega),if_neg (by omega)]⟩ (B4 (U9 3 11 (e:=D7) (sz:=17) rfl rfl) (B0 h0 rfl ⟨rfl,rfl,rfl,rfl,congrArg (fun z:Int=>some (AV.i z)) (by dsimp only;omega),trivial⟩ ⟨rfl,rfl,rfl,⟨0,rfl⟩,trivial⟩ rfl rfl rfl)) (fun x hI=>?_))
  |(have h8:=h7 v2;refine D5 (ι:=Nat×G0×List E3×Nat) (fun x=>⟨[(0,.ref 0 0),(3,.iptr (sL s)),(4,.ref 2 0),(5,.ref 3 0),(6,.i x.1)],5,[(0,J4 l x.2.2.2),(2,some (.box [.str [],.str [],.i 0,.i 0,.i 0,.i 0,.i 0,A6,.i 0,.i 0,.i 0,A6])),(3,some (.box [.str x.2.1.prj,.str x.2.1.src,.i (A1.op x.2.1.coh),.i (A1.col x.2.1.coh),.i (A1.code x.2.1.coh),.i (A1.lo x.2.1.coh),.i (A1.hi x.2.1.coh),.sl 6 ((A1.kids x.2.1.coh).map C3),.i x.2.1.part,.i x.2.1.of,.i x.2.1.seed,.row 4 0 x.2.2.1.length])),(4,some (.row D7 17 0 (x.2.2.1.map C0)))]⟩) (fun x=>x.1+x.2.2.1.length≤3∧Z=({ x.2.1 with qs:=(v8 l s x.1 x.2.2).1 },(v8 l s x.1 x.2.2).2)) (fun x=>x.1) (1+(B8 l v2 3).1,(⟨[112]++O0 p1,[115,114,99],c1,1,1,z1,[]⟩,([],(B8 l v2 3).2))) ⟨by dsimp only[List.length_nil];omega,by rw[←hZ];rw[if_neg (by omega),if_neg (by omega)]⟩ (B4 (U9 3 11 (e:=D7) (sz:=17) rfl rfl) (B0 h0 rfl ⟨rfl,rfl,rfl,rfl,congrArg (fun z:Int=>some (AV.i z)) (by dsimp only;omega),trivial⟩ ⟨rfl,rfl,rfl,⟨0,rfl⟩,trivial⟩ rfl rfl rfl)) (fun x hI=>?_))
 all_goals
  clear hZ
  obtain⟨k,d,Q,b⟩:=x
  obtain⟨hk,hI⟩:=hI
  dsimp only at hk hI ⊢
  by_cases hn:k=0
 all_goals first
  |subst hn
   rw[v8]at hI
   dsimp only at hI
   clear rq rn r7 h7
   rw[hI]
   repeat'((first|refine S2 ?_|(refine T6 ?_ ?_<;>intro h<;>try exact V1 h)|intro el ke kg|intro el ke|exact T4|refine T5 ?_ ?_|intro ex)<;>try conv=>whnf)
  |skip
 all_goals first
  |(exfalso;omega)
  |exact C9 (rvs:=[.cell 4 P9]) (vs:=[_]) ⟨2,_,_,rfl,rfl,inferInstance,rfl,rfl,trivial⟩ rfl rfl (B4 (Gm 1 4 h0 rfl rfl) (B2 h0)) rfl
  |skip
 all_goals
  obtain⟨m,rfl⟩:∃m,k=m+1:=⟨k-1,by omega⟩
  rw[v8]at hI
  dsimp only at hI
  have su:=rn (m+1) (by omega)
  have hil2:=Ak (m+1)
  have hq:=rq ([113]++O0 (m+1)) b
  generalize GZ l s ([113]++O0 (m+1)) b=X at *
  obtain⟨q,b2⟩:=X
  dsimp only at hq hI
  clear rq rn r7 h7
  repeat'((first|refine A0 su ?_|(refine E0 ?_ ?_;(show 1+(O0 (m+1)).length≤_;omega))|(refine B6 10 ?_;refine C5 (id:=10) ⟨[(0,.ref 0 0),(3,.iptr (sL s)),(4,.ref 2 0),(5,.ref 3 0),(6,.i ((m+1:Nat):Int))],5,[(0,J4 l b2),(2,some (.box [.str [],.str [],.i 0,.i 0,.i 0,.i 0,.i 0,A6,.i 0,.i 0,.i 0,A6])),(3,some (.box [.str d.prj,.str d.src,.i (A1.op d.coh),.i (A1.col d.coh),.i (A1.code d.coh),.i (A1.lo d.coh),.i (A1.hi d.coh),.sl 6 ((A1.kids d.coh).map C3),.i d.part,.i d.of,.i d.seed,.row 4 0 (Q++[q]).length])),(4,some (.row D7 17 0 ((Q++[q]).map C0)))]⟩ ?_ ?_) |refine S2 ?_|(refine T6 ?_ ?_<;>intro h<;>try exact V1 h)|intro el ke kg|intro el ke|exact T4|refine T5 ?_ ?_|intro ex|refine nc [0] [0] hq rfl rfl rfl ⟨rfl,trivial⟩ ?_)<;>try conv=>whnf)
 all_goals first
  |(exfalso;omega)
  |exact B0 h0 rfl ⟨rfl,rfl,rfl,rfl,rfl,trivial⟩ ⟨rfl,rfl,congrArg (fun z=>G1.box [.str d.prj,.str d.src,.i (A1.op d.coh),.i (A1.col d.coh),.i (A1.code d.coh),.i (A1.lo d.coh),.i (A1.hi d.coh),.sl 6 ((A1.kids d.coh).map C3),.i d.part,.i d.of,.i d.seed,.row 4 0 z]) (by rw[List.length_append];rfl),⟨_,congrArg (G1.row D7 17 _) (by rw[List.map_append];rfl)⟩,trivial⟩ rfl rfl rfl
  |exact⟨(m,d,Q++[q],b2),⟨by dsimp only;rw[List.length_append,List.length_singleton];omega,hI⟩,by dsimp only;omega,B0 h0 rfl ⟨rfl,rfl,rfl,rfl,congrArg (fun z:Int=>some (AV.i z)) (by omega),trivial⟩ ⟨rfl,rfl,rfl,⟨_,rfl⟩,trivial⟩ rfl rfl rfl⟩
theorem YR(l:List UInt8)(s:A5)(hd:F7 s)(hl:l.length≤400)(a:Nat):A9 Tryz.prog 13 1 (E6 l a) [.ref 0 0,sA s] 1 (E6 l (U7 l s a).2) (R3 (U7 l s a).1) :=
 Rt (Mt l s hd hl a) rfl fun E h0=>B2 h0
end Go.Proofs.YtkcekccdcpmekaaGreatDoor
namespace Go.Proofs.YtkcekccdcpmekaaGreatDoor
open Go Go.Av Go.RowKit Go.Lib
set_option maxRecDepth 100000
abbrev F6(z:List UInt8):List AV:=[.str z]
theorem YS{U:Nat→Prop}{w:World}{l:List (List UInt8)}{y:Value}(h:Im U w (.sl 1 (l.map F6)) y):(∃a c,y=.slice a 0 c∧l=[])∨∃bk o c,y=.slice (some ⟨bk,o,none⟩) l.length c∧l.length≤c∧bk<w.heap.size∧∀(j:Nat) x,l[j]?=some x→w.cell? ⟨bk,o+j,none⟩=some (.string ⟨x.toArray⟩):=by
 generalize hL:l.map F6=L at h
 have kf:L.length=l.length:=by rw[←hL,List.length_map]
 cases h with
 |slnil=>exact .inl ⟨none,0,rfl,List.map_eq_nil_iff.1 hL⟩
 |sl sz L a cap f lT hm hu hsz hc h =>
  cases l with
  |nil=>exact .inl ⟨some a,cap,by rw[kf];rfl,rfl⟩
  |cons x0 r =>
   have lU:∀(j:Nat) x,(x0::r)[j]?=some x→w.cell? (a.add j)=some (.string ⟨x.toArray⟩):=fun j x hx=>by
    have h1:j<L.length:=by rw[kf];exact(List.getElem?_eq_some_iff.1 hx).1
    have h2:=hc j h1 0 Nat.one_pos
    have h3:=h j (F6 x) (by rw[←hL,List.getElem?_map,hx];rfl) 0 _ rfl
    rw[Nat.mul_one,Nat.add_zero]at h2
    rw[h2]
    generalize f j 0=v at h3
    cases h3
    rfl
   have h0:=lU 0 x0 rfl
   obtain⟨bk,o,sp⟩:=a
   have hs:sp=none:=by
    cases sp with
    |none=>rfl
    |some q =>
     exfalso
     unfold World.cell? Addr.add at h0
     rw[if_pos rfl]at h0
     revert h0
     split
     ·intro h0;cases h0
     ·intro h0;cases h0
   subst hs
   have kj:=HI h0
   rw[Z0]at kj
   refine .inr ⟨bk,o,cap,by rw[kf],by rw[←kf];exact lT,kj,fun j x hx=>?_⟩
   have hj:=lU j x hx
   have e:(⟨bk,o,none⟩:Addr).add j=⟨bk,o+j,none⟩:=by unfold Addr.add;split<;>simp_all
   rwa[e]at hj
theorem YT(l:List (List UInt8))(kp:List UInt8)(hN:l.length≤140737488355328)(kf:(Lib.join l kp).length≤140737488355328):A4 Tryz.prog 144 [.sl 1 (l.map F6),.str kp] (.str (Lib.join l kp)):=by
 refine⟨⟨Tryz.f144,Tryz.func144,by kernel_rfl,by kernel_rfl⟩,fun X w vs hX mL hl hv=>?_⟩
 match vs,hl with
 |[y,z],_ =>
  have nn:=hv 0 _ y rfl rfl
  have nY:=hv 1 _ z rfl rfl
  cases nY
  rcases YS nn with ⟨a,c,rfl,rfl⟩|⟨bk,o,c,rfl,hc,oE,lU⟩
  ·refine Calls.mono (Tryz.strings_Join_none a c ⟨kp.toArray⟩ w) ?_
   rintro e w' ⟨rfl,rfl⟩
   exact⟨_,rfl,.str [],Below.refl _ _⟩
  ·have e1:(l.map fun x=>ByteArray.mk x.toArray).map (·.data.toList)=l:=by
    rw[List.map_map]
    exact(List.map_congr_left (fun x _=>rfl)).trans (List.map_id l)
   have:=Tryz.strings_Join bk o c (l.map fun x=>ByteArray.mk x.toArray) ⟨kp.toArray⟩ w (fun j x hx=>by
    rw[List.getElem?_map,Option.map_eq_some_iff]at hx
    obtain⟨x0,h1,rfl⟩:=hx
    exact lU j x0 h1) oE (by rw[List.length_map];exact hN) (by rw[List.length_map];exact hc) (by rw[e1];exact kf)
   rw[e1,List.length_map]at this
   refine Calls.mono this ?_
   rintro e w' ⟨rfl,hb⟩
   exact⟨_,rfl,.str _,hb⟩
theorem Ay(t kp:List UInt8)(ht:t.length<4294967281):A4 Tryz.prog 43 [.str t,.str kp] (.tup [.str (Lib.cut t kp).1,.str (Lib.cut t kp).2.1,.b (Lib.cut t kp).2.2]):=by
 refine⟨⟨Tryz.f43,Tryz.func43,by kernel_rfl,by kernel_rfl⟩,fun X w vs hX mL hl hv=>?_⟩
 match vs,hl with
 |[y,z],_ =>
  have nn:=hv 0 _ y rfl rfl
  have nY:=hv 1 _ z rfl rfl
  cases nn
  cases nY
  obtain⟨_,m,tt,fr,he⟩:=mL.num 0 (by decide)
  refine Calls.mono (Tryz.strings_Cut ⟨t.toArray⟩ ⟨kp.toArray⟩ m w ht (by unfold World.cell?;simp[he])) ?_
  rintro e w' ⟨rfl,n,rfl⟩
  refine⟨_,rfl,.tup _ [.string _,.string _,.bool _] rfl fun j x c hx hc=>?_,⟨rfl,rfl,rfl,Nat.le_refl _,fun _ _=>rfl⟩⟩
  match j,hx,hc with
  |0,hx,hc=>cases hx;cases hc;exact .str _
  |1,hx,hc=>cases hx;cases hc;exact .str _
  |2,hx,hc=>cases hx;cases hc;exact .v _
end Go.Proofs.YtkcekccdcpmekaaGreatDoor

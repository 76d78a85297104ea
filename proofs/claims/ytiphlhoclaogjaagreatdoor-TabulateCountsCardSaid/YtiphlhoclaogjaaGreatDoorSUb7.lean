/- Draws: questions and declarations: the walks. -/
import Derived.Test.YtiphlhoclaogjaaGreatDoorSUb0
import Derived.Test.YtiphlhoclaogjaaGreatDoorSTa5
import Derived.Test.YtiphlhoclaogjaaGreatDoorSTa0
set_option linter.unusedVariables false
set_option linter.unnecessarySimpa false
set_option linter.unusedSimpArgs false
set_option maxHeartbeats 64000000
namespace Go.Proofs.YtiphlhoclaogjaaGreatDoor
open Go Go.Av
attribute [local irreducible] C7 B2 D3 C9 DQ D0 C8 St.le A3 B9
set_option maxRecDepth 100000
abbrev BQ:Nat:=120
abbrev eE:Nat:=59
abbrev Gd(l:List UInt8)(a:Nat):Option C6:=some (.box [.sl 1 (l.map N9),.i a])
theorem Gz(q:N6){A B C:AV}(ha:NL A (.sl 2 (q.dims.map B4)))(hb:NL B (.sl 1 (q.trms.map wA)))(hc:NL C (.sl 6 (q.evt.kids.map L0))):
  NL (.agg [.str q.name,.i q.kind,.i q.flt.op,.i q.flt.col,.i q.flt.code,.i q.flt.lo,.i q.flt.hi,.sl 6 (q.flt.kids.map L0),A,.i q.mea,B,.i q.evt.op,.i q.evt.col,.i q.evt.code,.i q.evt.lo,.i q.evt.hi,C]) (x8 q) :=
 EG ⟨.refl _,.refl _,.refl _,.refl _,.refl _,.refl _,.refl _,.refl _,ha,.refl _,hb,.refl _,.refl _,.refl _,.refl _,.refl _,hc,trivial⟩
theorem eF(l:List UInt8)(s:A4)(hd:E7 s)(hl:l.length≤400)(nm:List UInt8)(a:Nat):B9 Tryz.prog 124 1 (R4 l a) [.ref 0 0,sA s,.str nm] 1 (R4 l (UW l s nm a).2) (x8 (UW l s nm a).1):=by
 unfold UW UV
 dsimp only
 have r0:=H7 l a 3 hl
 have rl:=H1 l a (n:=3) (by omega)
 generalize B8 l a 3=N at *
 obtain⟨n0,a1⟩:=N
 dsimp only at r0 rl ⊢
 have r1:=Fw l s hd hl n0 a1 (by omega)
 generalize o5 l s n0 a1=c at *
 obtain⟨c1,c2⟩:=c
 dsimp only at r1 ⊢
 have r2:=CA l c2 s hd hl
 obtain⟨_,hm1,pP⟩:=Dg (l:=l) (a:=c2) hd.two.2
 generalize AL l c2 s 3=m at *
 obtain⟨ma,mb⟩:=m
 dsimp only at r2 hm1 pP ⊢
 obtain⟨x,hx⟩:∃x,s.cols[ma]?=some x:=⟨_,List.getElem?_eq_getElem hm1⟩
 have sq:C0 s ma=x:=C1 (by simpa using hx)
 rw[sq]
 have r3:=H7 l mb 4 hl
 generalize B8 l mb 4=w at *
 obtain⟨w1,w2⟩:=w
 dsimp only at r3 ⊢
 have r4:=OH l w2 s hd hl
 generalize IL l w2 s=D at *
 obtain⟨D1,D2⟩:=D
 dsimp only at r4 ⊢
 have r5:=VW l w2 s ma hd hl
 generalize Jv l w2 s ma=T at *
 obtain⟨T1,T2⟩:=T
 dsimp only at r5 ⊢
 have r6:=OH l T2 s hd hl
 generalize IL l T2 s=F at *
 obtain⟨F1,F2⟩:=F
 dsimp only at r6 ⊢
 have r7:=Fw l s hd hl 1 w2 (by omega)
 generalize o5 l s 1 w2=v at *
 obtain⟨v1,v2⟩:=v
 dsimp only at r7 ⊢
 refine V9 Tryz.func124 63 fun E h0=>?_
 repeat'((first|(refine A2 (x:=x) (by simpa using hx) (by omega) ?_)|(refine F6 1 ?_;refine O0 (id:=1) (σ':=⟨[(0,.ref 0 0),(2,.str nm),(4,.iptr (sL s)),(6,.ref 2 0)],3,[(0,Gd l a),(2,some (.box [.str [],.i 0,.i 0,.i 0,.i 0,.i 0,.i 0,W2,W2,.i 0,W2,.i 0,.i 0,.i 0,.i 0,.i 0,W2]))]⟩) (A6 h0) ?_;refine G9 (id:=1) ⟨[(0,.ref 0 0),(4,.iptr (sL s)),(6,.ref 2 0),(7,.ref 3 0)],4,[(0,Gd l c2),(2,some (.box [.str [],.i 0,.i 0,.i 0,.i 0,.i 0,.i 0,W2,W2,.i 0,W2,.i 0,.i 0,.i 0,.i 0,.i 0,W2])),(3,some (.box [.str nm,.i 1,.i (B1.op c1),.i (B1.col c1),.i (B1.code c1),.i (B1.lo c1),.i (B1.hi c1),.sl 6 ((B1.kids c1).map L0),W2,.i (-1),W2,.i 0,.i 0,.i 0,.i 0,.i 0,W2]))]⟩ ?_ ?_) |refine S2 ?_|(refine T6 ?_ ?_<;>intro h<;>try exact V1 h)|intro el lU lV|intro el lU|exact T4|refine T5 ?_ ?_|intro ex|refine nc [0] [0] r0 rfl rfl rfl ⟨rfl,trivial⟩ ?_|refine nc [0] [0] r1 rfl rfl rfl ⟨rfl,trivial⟩ ?_|refine nc [0] [0] r2 rfl rfl rfl ⟨rfl,trivial⟩ ?_|refine nc [0] [0] r3 rfl rfl rfl ⟨rfl,trivial⟩ ?_|refine nc [0] [0] r4 rfl rfl rfl ⟨rfl,trivial⟩ ?_|refine nc [0] [0] r5 rfl rfl rfl ⟨rfl,trivial⟩ ?_|refine nc [0] [0] r6 rfl rfl rfl ⟨rfl,trivial⟩ ?_|refine nc [0] [0] r7 rfl rfl rfl ⟨rfl,trivial⟩ ?_)<;>try conv=>whnf)
 all_goals first
  |exact A9 h0 rfl ⟨rfl,rfl,rfl,rfl,trivial⟩ ⟨rfl,rfl,rfl,trivial⟩ rfl rfl rfl
  |(exfalso;omega)
  |(rw[if_pos (by omega)];exact I7 (rvs:=[.cell 6 BQ]) (vs:=[_]) ⟨2,_,_,rfl,rfl,inferInstance,rfl,rfl,trivial⟩ rfl rfl (B5 (N2 6 (x8 ⟨nm,1,c1,D1,ma,[],zC⟩) rfl (Gz ⟨nm,1,c1,D1,ma,[],zC⟩ (.refl _) (.nil 1) (.nil 6))) (A6 h0)) rfl)
  |(rw[if_neg (by omega),if_pos (by omega),if_pos (by omega)];exact I7 (rvs:=[.cell 6 BQ]) (vs:=[_]) ⟨2,_,_,rfl,rfl,inferInstance,rfl,rfl,trivial⟩ rfl rfl (B5 (N2 6 (x8 ⟨nm,2,c1,[],ma,T1,zC⟩) rfl (Gz ⟨nm,2,c1,[],ma,T1,zC⟩ (.nil 2) (.refl _) (.nil 6))) (A6 h0)) rfl)
  |(rw[if_neg (by omega),if_pos (by omega),if_neg (by omega)];exact I7 (rvs:=[.cell 6 BQ]) (vs:=[_]) ⟨2,_,_,rfl,rfl,inferInstance,rfl,rfl,trivial⟩ rfl rfl (B5 (N2 6 (x8 ⟨nm,1,c1,F1,-1,[],zC⟩) rfl (Gz ⟨nm,1,c1,F1,-1,[],zC⟩ (.refl _) (.nil 1) (.nil 6))) (A6 h0)) rfl)
  |(rw[if_neg (by omega),if_neg (by omega),if_pos (by omega),if_pos (by omega)];exact I7 (rvs:=[.cell 6 BQ]) (vs:=[_]) ⟨2,_,_,rfl,rfl,inferInstance,rfl,rfl,trivial⟩ rfl rfl (B5 (N2 6 (x8 ⟨nm,3,c1,[],ma,[],v1⟩) rfl (Gz ⟨nm,3,c1,[],ma,[],v1⟩ (.nil 2) (.nil 1) (.refl _))) (A6 h0)) rfl)
  |(rw[if_neg (by omega),if_neg (by omega),if_pos (by omega),if_neg (by omega)];exact I7 (rvs:=[.cell 6 BQ]) (vs:=[_]) ⟨2,_,_,rfl,rfl,inferInstance,rfl,rfl,trivial⟩ rfl rfl (B5 (N2 6 (x8 ⟨nm,1,c1,D1,-1,[],zC⟩) rfl (Gz ⟨nm,1,c1,D1,-1,[],zC⟩ (.refl _) (.nil 1) (.nil 6))) (A6 h0)) rfl)
  |(rw[if_neg (by omega),if_neg (by omega),if_neg (by omega)];exact I7 (rvs:=[.cell 6 BQ]) (vs:=[_]) ⟨2,_,_,rfl,rfl,inferInstance,rfl,rfl,trivial⟩ rfl rfl (B5 (N2 6 (x8 ⟨nm,1,c1,D1,-1,[],zC⟩) rfl (Gz ⟨nm,1,c1,D1,-1,[],zC⟩ (.refl _) (.nil 1) (.nil 6))) (A6 h0)) rfl)
theorem Ys(l:List UInt8)(s:A4)(hd:E7 s)(hl:l.length≤400)(a:Nat):B9 Tryz.prog 61 1 (R4 l a) [.ref 0 0,sA s] 2 [(0,Gd l (R0 l s a).2),(1,some (.row BQ 17 0 ((R0 l s a).1.qs.map Bj)))]
  (.agg [.str (R0 l s a).1.prj,.str (R0 l s a).1.src,.i (R0 l s a).1.coh.op,.i (R0 l s a).1.coh.col,.i (R0 l s a).1.coh.code,.i (R0 l s a).1.coh.lo,.i (R0 l s a).1.coh.hi,.sl 6 ((R0 l s a).1.coh.kids.map L0),.i (R0 l s a).1.part,.i (R0 l s a).1.of,.i (R0 l s a).1.seed,.row 1 0 (R0 l s a).1.qs.length]):=by
 generalize hZ:R0 l s a=Z
 unfold R0 ju at hZ
 dsimp only at hZ
 have r0:=H7 l a 3 hl
 have rl:=H1 l a (n:=3) (by omega)
 generalize B8 l a 3=N at *
 obtain⟨p1,p2⟩:=N
 dsimp only at r0 rl hZ
 have ri:=Cb p1 (by omega)
 have qi:=v6 p1
 have r1:=Fw l s hd hl 1 p2 (by omega)
 generalize o5 l s 1 p2=c at *
 obtain⟨c1,c2⟩:=c
 dsimp only at r1 hZ
 have r2:=H7 l c2 999 hl
 generalize B8 l c2 999=N at *
 obtain⟨z1,z2⟩:=N
 dsimp only at r2 hZ
 have r3:=p7 l z2 3 hl (by omega)
 generalize B8 l z2 3=N at *
 obtain⟨u1,u2⟩:=N
 dsimp only at r3 hZ
 have r4:=p7 l u2 3 hl (by omega)
 generalize B8 l u2 3=N at *
 obtain⟨v1,v2⟩:=N
 dsimp only at r4 hZ
 have r5:=S8 l v2 2 5 hl (by omega) (by omega) (by omega)
 rw[show (5:Int)-2+1=4 from rfl]at r5
 have ho:=H1 l v2 (n:=4) (by omega)
 generalize B8 l v2 4=N at *
 obtain⟨o1,o2⟩:=N
 dsimp only at r5 ho hZ
 have r6:=S8 l o2 1 (2+(o1:Int)) hl (by omega) (by omega) (by omega)
 rw[show (2+(o1:Int))-1+1=2+(o1:Int) by omega]at r6
 generalize B8 l o2 (2+(o1:Int))=N at *
 obtain⟨q1,q2⟩:=N
 dsimp only at r6 hZ
 have r7:=fun b=>S8 l b 1 3 hl (by omega) (by omega) (by omega)
 rw[show (3:Int)-1+1=3 from rfl]at r7
 have h7:=fun b=>H1 l b (n:=3) (by omega)
 have rq:=fun nm b=>eF l s hd hl nm b
 have rn:=fun n h=>Cb n h
 refine V9 Tryz.func61 53 fun E h0=>?_
 repeat'((first|refine A1 ri ?_|(refine I4 ?_ ?_;(show 1+(P3 p1).length≤_;omega))|(refine F6 1 ?_;refine O0 (id:=1) (σ':=⟨[(0,.ref 0 0),(3,.iptr (sL s)),(4,.ref 2 0)],3,[(0,Gd l a),(2,some (.box [.str [],.str [],.i 0,.i 0,.i 0,.i 0,.i 0,W2,.i 0,.i 0,.i 0,W2]))]⟩) (A6 h0) ?_;refine G9 (id:=1) ⟨[(0,.ref 0 0),(3,.iptr (sL s)),(4,.ref 2 0),(5,.ref 3 0)],4,[(0,Gd l z2),(2,some (.box [.str [],.str [],.i 0,.i 0,.i 0,.i 0,.i 0,W2,.i 0,.i 0,.i 0,W2])),(3,some (.box [.str ([112]++P3 p1),.str [115,114,99],.i (B1.op c1),.i (B1.col c1),.i (B1.code c1),.i (B1.lo c1),.i (B1.hi c1),.sl 6 ((B1.kids c1).map L0),.i 1,.i 1,.i z1,W2]))]⟩ ?_ ?_) |refine S2 ?_|(refine T6 ?_ ?_<;>intro h<;>try exact V1 h)|intro el lU lV|intro el lU|exact T4|refine T5 ?_ ?_|intro ex|refine nc [0] [0] r0 rfl rfl rfl ⟨rfl,trivial⟩ ?_|refine nc [0] [0] r1 rfl rfl rfl ⟨rfl,trivial⟩ ?_|refine nc [0] [0] r2 rfl rfl rfl ⟨rfl,trivial⟩ ?_|refine nc [0] [0] r3 rfl rfl rfl ⟨rfl,trivial⟩ ?_|refine nc [0] [0] r4 rfl rfl rfl ⟨rfl,trivial⟩ ?_|refine nc [0] [0] r5 rfl rfl rfl ⟨rfl,trivial⟩ ?_|refine nc [0] [0] r6 rfl rfl rfl ⟨rfl,trivial⟩ ?_|refine nc [0] [0] (r7 _) rfl rfl rfl ⟨rfl,trivial⟩ ?_)<;>try conv=>whnf)
 all_goals first
  |exact A9 h0 rfl ⟨rfl,rfl,rfl,rfl,trivial⟩ ⟨rfl,rfl,rfl,trivial⟩ rfl rfl rfl
  |(exfalso;omega)
  |skip
 clear r0 ri r1 r2 r3 r4 r5 r6
 all_goals first
  |(have h8:=h7 q2;refine B0 (ι:=Nat×o6×List N6×Nat) (fun x=>⟨[(0,.ref 0 0),(3,.iptr (sL s)),(4,.ref 2 0),(5,.ref 3 0),(6,.i x.1)],5,[(0,Gd l x.2.2.2),(2,some (.box [.str [],.str [],.i 0,.i 0,.i 0,.i 0,.i 0,W2,.i 0,.i 0,.i 0,W2])),(3,some (.box [.str x.2.1.prj,.str x.2.1.src,.i (B1.op x.2.1.coh),.i (B1.col x.2.1.coh),.i (B1.code x.2.1.coh),.i (B1.lo x.2.1.coh),.i (B1.hi x.2.1.coh),.sl 6 ((B1.kids x.2.1.coh).map L0),.i x.2.1.part,.i x.2.1.of,.i x.2.1.seed,.row 4 0 x.2.2.1.length])),(4,some (.row BQ 17 0 (x.2.2.1.map Bj)))]⟩) (fun x=>x.1+x.2.2.1.length≤3∧Z=({ x.2.1 with qs:=(EO l s x.1 x.2.2).1 },(EO l s x.1 x.2.2).2)) (fun x=>x.1) (1+(B8 l q2 3).1,(⟨[112]++P3 p1,[115,114,99],FZ,1+(q1:Int),2+(o1:Int),z1,[]⟩,([],(B8 l q2 3).2))) ⟨by dsimp only[List.length_nil];omega,by rw[←hZ];rw[if_pos (by omega),if_pos (by omega)]⟩ (B5 (BM 3 11 (e:=BQ) (sz:=17) rfl rfl) (B5 (Ni 3 [.str ([112]++P3 p1),.str [115,114,99],.i (B1.op FZ),.i (B1.col FZ),.i (B1.code FZ),.i (B1.lo FZ),.i (B1.hi FZ),.sl 6 ((B1.kids FZ).map L0),.i (1+(q1:Int)),.i (2+(o1:Int)),.i z1,.row 4 0 0] rfl ⟨.refl _,.refl _,.refl _,.refl _,.refl _,.refl _,.refl _,.nil 6,.refl _,.refl _,.refl _,.refl _,trivial⟩) (A9 h0 rfl ⟨rfl,rfl,rfl,rfl,congrArg (fun z:Int=>some (AV.i z)) (by dsimp only;omega),trivial⟩ ⟨rfl,rfl,rfl,⟨0,rfl⟩,trivial⟩ rfl rfl rfl))) (fun x hI=>?_))
  |(have h8:=h7 v2;refine B0 (ι:=Nat×o6×List N6×Nat) (fun x=>⟨[(0,.ref 0 0),(3,.iptr (sL s)),(4,.ref 2 0),(5,.ref 3 0),(6,.i x.1)],5,[(0,Gd l x.2.2.2),(2,some (.box [.str [],.str [],.i 0,.i 0,.i 0,.i 0,.i 0,W2,.i 0,.i 0,.i 0,W2])),(3,some (.box [.str x.2.1.prj,.str x.2.1.src,.i (B1.op x.2.1.coh),.i (B1.col x.2.1.coh),.i (B1.code x.2.1.coh),.i (B1.lo x.2.1.coh),.i (B1.hi x.2.1.coh),.sl 6 ((B1.kids x.2.1.coh).map L0),.i x.2.1.part,.i x.2.1.of,.i x.2.1.seed,.row 4 0 x.2.2.1.length])),(4,some (.row BQ 17 0 (x.2.2.1.map Bj)))]⟩) (fun x=>x.1+x.2.2.1.length≤3∧Z=({ x.2.1 with qs:=(EO l s x.1 x.2.2).1 },(EO l s x.1 x.2.2).2)) (fun x=>x.1) (1+(B8 l v2 3).1,(⟨[112]++P3 p1,[115,114,99],FZ,1,1,z1,[]⟩,([],(B8 l v2 3).2))) ⟨by dsimp only[List.length_nil];omega,by rw[←hZ];rw[if_neg (by omega),if_pos (by omega)]⟩ (B5 (BM 3 11 (e:=BQ) (sz:=17) rfl rfl) (B5 (Ni 3 [.str ([112]++P3 p1),.str [115,114,99],.i (B1.op FZ),.i (B1.col FZ),.i (B1.code FZ),.i (B1.lo FZ),.i (B1.hi FZ),.sl 6 ((B1.kids FZ).map L0),.i (1),.i (1),.i z1,.row 4 0 0] rfl ⟨.refl _,.refl _,.refl _,.refl _,.refl _,.refl _,.refl _,.nil 6,.refl _,.refl _,.refl _,.refl _,trivial⟩) (A9 h0 rfl ⟨rfl,rfl,rfl,rfl,congrArg (fun z:Int=>some (AV.i z)) (by dsimp only;omega),trivial⟩ ⟨rfl,rfl,rfl,⟨0,rfl⟩,trivial⟩ rfl rfl rfl))) (fun x hI=>?_))
  |(have h8:=h7 q2;refine B0 (ι:=Nat×o6×List N6×Nat) (fun x=>⟨[(0,.ref 0 0),(3,.iptr (sL s)),(4,.ref 2 0),(5,.ref 3 0),(6,.i x.1)],5,[(0,Gd l x.2.2.2),(2,some (.box [.str [],.str [],.i 0,.i 0,.i 0,.i 0,.i 0,W2,.i 0,.i 0,.i 0,W2])),(3,some (.box [.str x.2.1.prj,.str x.2.1.src,.i (B1.op x.2.1.coh),.i (B1.col x.2.1.coh),.i (B1.code x.2.1.coh),.i (B1.lo x.2.1.coh),.i (B1.hi x.2.1.coh),.sl 6 ((B1.kids x.2.1.coh).map L0),.i x.2.1.part,.i x.2.1.of,.i x.2.1.seed,.row 4 0 x.2.2.1.length])),(4,some (.row BQ 17 0 (x.2.2.1.map Bj)))]⟩) (fun x=>x.1+x.2.2.1.length≤3∧Z=({ x.2.1 with qs:=(EO l s x.1 x.2.2).1 },(EO l s x.1 x.2.2).2)) (fun x=>x.1) (1+(B8 l q2 3).1,(⟨[112]++P3 p1,[115,114,99],c1,1+(q1:Int),2+(o1:Int),z1,[]⟩,([],(B8 l q2 3).2))) ⟨by dsimp only[List.length_nil];omega,by rw[←hZ];rw[if_pos (by omega),if_neg (by omega)]⟩ (B5 (BM 3 11 (e:=BQ) (sz:=17) rfl rfl) (A9 h0 rfl ⟨rfl,rfl,rfl,rfl,congrArg (fun z:Int=>some (AV.i z)) (by dsimp only;omega),trivial⟩ ⟨rfl,rfl,rfl,⟨0,rfl⟩,trivial⟩ rfl rfl rfl)) (fun x hI=>?_))
  |(have h8:=h7 v2;refine B0 (ι:=Nat×o6×List N6×Nat) (fun x=>⟨[(0,.ref 0 0),(3,.iptr (sL s)),(4,.ref 2 0),(5,.ref 3 0),(6,.i x.1)],5,[(0,Gd l x.2.2.2),(2,some (.box [.str [],.str [],.i 0,.i 0,.i 0,.i 0,.i 0,W2,.i 0,.i 0,.i 0,W2])),(3,some (.box [.str x.2.1.prj,.str x.2.1.src,.i (B1.op x.2.1.coh),.i (B1.col x.2.1.coh),.i (B1.code x.2.1.coh),.i (B1.lo x.2.1.coh),.i (B1.hi x.2.1.coh),.sl 6 ((B1.kids x.2.1.coh).map L0),.i x.2.1.part,.i x.2.1.of,.i x.2.1.seed,.row 4 0 x.2.2.1.length])),(4,some (.row BQ 17 0 (x.2.2.1.map Bj)))]⟩) (fun x=>x.1+x.2.2.1.length≤3∧Z=({ x.2.1 with qs:=(EO l s x.1 x.2.2).1 },(EO l s x.1 x.2.2).2)) (fun x=>x.1) (1+(B8 l v2 3).1,(⟨[112]++P3 p1,[115,114,99],c1,1,1,z1,[]⟩,([],(B8 l v2 3).2))) ⟨by dsimp only[List.length_nil];omega,by rw[←hZ];rw[if_neg (by omega),if_neg (by omega)]⟩ (B5 (BM 3 11 (e:=BQ) (sz:=17) rfl rfl) (A9 h0 rfl ⟨rfl,rfl,rfl,rfl,congrArg (fun z:Int=>some (AV.i z)) (by dsimp only;omega),trivial⟩ ⟨rfl,rfl,rfl,⟨0,rfl⟩,trivial⟩ rfl rfl rfl)) (fun x hI=>?_))
 all_goals
  clear hZ
  obtain⟨k,d,Q,b⟩:=x
  obtain⟨hk,hI⟩:=hI
  dsimp only at hk hI ⊢
  by_cases hn:k=0
 all_goals first
  |subst hn
   rw[EO]at hI
   dsimp only at hI
   clear rq rn r7 h7
   rw[hI]
   repeat'((first|refine S2 ?_|(refine T6 ?_ ?_<;>intro h<;>try exact V1 h)|intro el lU lV|intro el lU|exact T4|refine T5 ?_ ?_|intro ex)<;>try conv=>whnf)
  |skip
 all_goals first
  |(exfalso;omega)
  |exact I7 (rvs:=[.cell 4 eE]) (vs:=[_]) ⟨2,_,_,rfl,rfl,inferInstance,rfl,rfl,trivial⟩ rfl rfl (B5 (BC 1 4 h0 rfl rfl) (A9 h0 rfl ⟨rfl,trivial⟩ ⟨rfl,⟨_,rfl⟩,trivial⟩ rfl rfl rfl)) rfl
  |skip
 all_goals
  obtain⟨m,rfl⟩:∃m,k=m+1:=⟨k-1,by omega⟩
  rw[EO]at hI
  dsimp only at hI
  have sn:=rn (m+1) (by omega)
  have hil2:=v6 (m+1)
  have hq:=rq ([113]++P3 (m+1)) b
  generalize UW l s ([113]++P3 (m+1)) b=X at *
  obtain⟨q,b2⟩:=X
  dsimp only at hq hI
  clear rq rn r7 h7
  repeat'((first|refine A1 sn ?_|(refine I4 ?_ ?_;(show 1+(P3 (m+1)).length≤_;omega))|(refine F6 10 ?_;refine G9 (id:=10) ⟨[(0,.ref 0 0),(3,.iptr (sL s)),(4,.ref 2 0),(5,.ref 3 0),(6,.i ((m+1:Nat):Int))],5,[(0,Gd l b2),(2,some (.box [.str [],.str [],.i 0,.i 0,.i 0,.i 0,.i 0,W2,.i 0,.i 0,.i 0,W2])),(3,some (.box [.str d.prj,.str d.src,.i (B1.op d.coh),.i (B1.col d.coh),.i (B1.code d.coh),.i (B1.lo d.coh),.i (B1.hi d.coh),.sl 6 ((B1.kids d.coh).map L0),.i d.part,.i d.of,.i d.seed,.row 4 0 (Q++[q]).length])),(4,some (.row BQ 17 0 ((Q++[q]).map Bj)))]⟩ ?_ ?_) |refine S2 ?_|(refine T6 ?_ ?_<;>intro h<;>try exact V1 h)|intro el lU lV|intro el lU|exact T4|refine T5 ?_ ?_|intro ex|refine nc [0] [0] hq rfl rfl rfl ⟨rfl,trivial⟩ ?_)<;>try conv=>whnf)
 all_goals first
  |(exfalso;omega)
  |exact A9 h0 rfl ⟨rfl,rfl,rfl,rfl,rfl,trivial⟩ ⟨rfl,rfl,congrArg (fun z=>C6.box [.str d.prj,.str d.src,.i (B1.op d.coh),.i (B1.col d.coh),.i (B1.code d.coh),.i (B1.lo d.coh),.i (B1.hi d.coh),.sl 6 ((B1.kids d.coh).map L0),.i d.part,.i d.of,.i d.seed,.row 4 0 z]) (by rw[List.length_append];rfl),⟨_,congrArg (C6.row BQ 17 _) (by rw[List.map_append];rfl)⟩,trivial⟩ rfl rfl rfl
  |exact⟨(m,d,Q++[q],b2),⟨by dsimp only;rw[List.length_append,List.length_singleton];omega,hI⟩,by dsimp only;omega,A9 h0 rfl ⟨rfl,rfl,rfl,rfl,congrArg (fun z:Int=>some (AV.i z)) (by omega),trivial⟩ ⟨rfl,rfl,rfl,⟨_,rfl⟩,trivial⟩ rfl rfl rfl⟩
theorem bO(l:List UInt8)(s:A4)(hd:E7 s)(hl:l.length≤400)(a:Nat):B9 Tryz.prog 61 1 (R4 l a) [.ref 0 0,sA s] 1 (R4 l (R0 l s a).2) (EN (R0 l s a).1) :=
 Hm (Ys l s hd hl a) rfl fun E h0=>A6 h0
theorem eG{s:A4}{d:o6}{picks:List Pk}(h:CE s d picks=0):∀p∈picks,0≤p.col∧p.col<s.cols.length:=by
 intro p hp
 unfold CE at h
 split at h
 ·contradiction
 ·split at h
  ·contradiction
  ·rename_i h2
   obtain⟨k,hk⟩:=List.getElem?_of_mem hp
   have:=z8 (Decidable.of_not_not h2) k p hk
   omega
theorem Qm(s:A4)(hd:E7 s)(rows:List (List Int))(d:o6)(picks:List Pk)(hl:picks.length≤1000)(secret:Int):A3 Tryz.prog 38 [.agg (O6 s rows),EN d,.sl 2 (picks.map B4),.i secret] (.tup [c9 (MP s rows d picks secret (CE s d picks)),.i (IP s rows secret (CE s d picks))]) :=
 Vc s rows d picks secret (CE s d picks) hl (VZ s hd d picks) eG
abbrev ki:Nat:=26
abbrev PL:List AV:=[.v (.slice none 0 0),.v (.slice none 0 0),.v (.slice none 0 0),.v (.slice none 0 0),.i 0]
abbrev Wg:List AV:=[.str [],.i 0,.v (.slice none 0 0),.v (.slice none 0 0)]
def UX(l:List UInt8)(s:A4)(d:o6)(a:Nat):List Pk×Nat:=(if (B8 l a 3).1=2 then FU s else DP s d,(B8 l a 3).2)
def KA(l:List UInt8)(a:Nat)(most:Int):(A4×List (List Int)×o6×N5)×Nat :=
 (((M4 l a most).1.1,(M4 l a most).1.2,(R0 l (M4 l a most).1.1 (M4 l a most).2).1,MP (M4 l a most).1.1 (M4 l a most).1.2 (R0 l (M4 l a most).1.1 (M4 l a most).2).1 (UX l (M4 l a most).1.1 (R0 l (M4 l a most).1.1 (M4 l a most).2).1 (R0 l (M4 l a most).1.1 (M4 l a most).2).2).1 (PK l (UX l (M4 l a most).1.1 (R0 l (M4 l a most).1.1 (M4 l a most).2).1 (R0 l (M4 l a most).1.1 (M4 l a most).2).2).2).1 (CE (M4 l a most).1.1 (R0 l (M4 l a most).1.1 (M4 l a most).2).1 (UX l (M4 l a most).1.1 (R0 l (M4 l a most).1.1 (M4 l a most).2).1 (R0 l (M4 l a most).1.1 (M4 l a most).2).2).1)),(PK l (UX l (M4 l a most).1.1 (R0 l (M4 l a most).1.1 (M4 l a most).2).1 (R0 l (M4 l a most).1.1 (M4 l a most).2).2).2).2)
abbrev PM:List AV:=[.str [],.str [],.i 0,.i 0,.i 0,.i 0,.i 0,Bn,.i 0,.i 0,.i 0,Bn]
theorem UY(l:List UInt8)(a:Nat)(most:Int)(hl:l.length≤400)(hm:0≤most)(pP:most≤1000):B9 Tryz.prog 20 1 (R4 l a) [.ref 0 0,.i most] 1 (R4 l (KA l a most).2) (.tup [.agg (O6 (KA l a most).1.1 (KA l a most).1.2.1),EN (KA l a most).1.2.2.1,c9 (KA l a most).1.2.2.2]):=by
 have h1:=eA l a most hl hm pP
 have hd:=(Wf l a hm).1
 unfold KA
 dsimp only
 generalize M4 l a most=q at *
 obtain⟨⟨s,rows⟩,b⟩:=q
 dsimp only at *
 have wy:=bO l s hd hl b
 generalize R0 l s b=D at *
 obtain⟨d,b1⟩:=D
 dsimp only at *
 have nY:=Ym s hd d
 have h2:=du s hd
 have h5:=p7 l b1 3 hl (by decide)
 have h3:=Vd l (B8 l b1 3).2 hl
 have rj:(FU s).length≤1000:=by
  have:=hd.lens
  have:=MK s (s.cols.length-1)
  unfold FU
  omega
 have zM:=bK s d
 unfold UX
 dsimp only
 generalize B8 l b1 3=o at *
 obtain⟨o,b2⟩:=o
 dsimp only at *
 generalize PK l b2=z at *
 obtain⟨uV,b3⟩:=z
 dsimp only at *
 by_cases ho:o=2
 ·rw[if_pos ho]
  have h4:=Qm s hd rows d (FU s) rj uV
  generalize MP s rows d (FU s) uV (CE s d (FU s))=X at *
  generalize IP s rows uV (CE s d (FU s))=xe at *
  generalize FU s=P at *
  generalize DP s d=Q at *
  clear hd rj
  refine V9 Tryz.func20 47 fun E h0=>?_
  repeat'((first|refine nc [0] [0] h1 rfl rfl rfl ⟨rfl,trivial⟩ ?_|refine nc [0] [0] wy rfl rfl rfl ⟨rfl,trivial⟩ ?_|refine nc [0] [0] h5 rfl rfl rfl ⟨rfl,trivial⟩ ?_|(refine F6 6 ?_;refine O0 (id:=6) (σ':=⟨[(0,.ref 0 0),(4,.ref 1 0),(5,.ref 2 0),(6,.ref 3 0),(7,.iptr (O6 s rows)),(8,.iptr (BO d)),(9,.sl 2 (P.map B4))],6,[(0,some (.box [.sl 1 (l.map N9),.i b2])),(1,some (.box PL)),(2,some (.box PM)),(3,some (.box Wg))]⟩) (A6 h0) ?_;refine G9 (id:=6) ⟨[(4,.ref 1 0),(5,.ref 2 0),(6,.ref 3 0),(7,.iptr (O6 s rows)),(8,.iptr (BO d)),(11,.ref 6 0)],7,[(0,some (.box [.sl 1 (l.map N9),.i b3])),(1,some (.box PL)),(2,some (.box PM)),(3,some (.box Wg)),(6,some (.box (Fx X)))]⟩ ?_ ?_)|(refine F6 7 ?_;refine O0 (id:=7) (σ':=⟨[(4,.ref 1 0),(5,.ref 2 0),(6,.ref 3 0),(7,.iptr (O6 s rows)),(8,.iptr (BO d)),(11,.iptr (Fx X))],7,[(0,some (.box [.sl 1 (l.map N9),.i b3])),(1,some (.box PL)),(2,some (.box PM)),(3,some (.box Wg))]⟩) (A6 h0) ?_;refine G9 (id:=7) ⟨[(4,.ref 1 0),(5,.ref 2 0),(6,.ref 3 0)],7,[(0,some (.box [.sl 1 (l.map N9),.i b3])),(1,some (.box (O6 s rows))),(2,some (.box (BO d))),(3,some (.box (Fx X)))]⟩ ?_ ?_) |refine S2 ?_|(refine T6 ?_ ?_<;>intro h<;>try exact V1 h)|intro el lU lV|intro el lU|exact T4|refine T5 ?_ ?_|intro ex|refine A1 nY ?_|refine A1 h2 ?_|refine nc [0] [0] h3 rfl rfl rfl ⟨rfl,trivial⟩ ?_|refine A1 h4 ?_)<;>try conv=>whnf)
  all_goals first
   |(exfalso;omega)
   |exact A9 h0 rfl ⟨rfl,rfl,rfl,rfl,rfl,rfl,trivial⟩ ⟨rfl,rfl,rfl,rfl,rfl,trivial⟩ rfl rfl rfl
   |exact A9 h0 rfl ⟨rfl,rfl,rfl,trivial⟩ ⟨rfl,rfl,rfl,rfl,trivial⟩ rfl rfl rfl
   |exact I7 (rvs:=[.cell 4 dz,.cell 5 eE,.cell 6 ki]) (vs:=[.agg (O6 s rows),EN d,c9 X]) ⟨1,_,_,rfl,rfl,inferInstance,rfl,rfl,2,_,_,rfl,rfl,inferInstance,rfl,rfl,3,_,_,rfl,rfl,inferInstance,rfl,rfl,trivial⟩ rfl rfl (A6 h0) rfl
 ·rw[if_neg ho]
  have h4:=Qm s hd rows d (DP s d) (by omega) uV
  generalize MP s rows d (DP s d) uV (CE s d (DP s d))=X at *
  generalize IP s rows uV (CE s d (DP s d))=xe at *
  generalize FU s=P at *
  generalize DP s d=Q at *
  clear hd rj
  refine V9 Tryz.func20 47 fun E h0=>?_
  repeat'((first|refine nc [0] [0] h1 rfl rfl rfl ⟨rfl,trivial⟩ ?_|refine nc [0] [0] wy rfl rfl rfl ⟨rfl,trivial⟩ ?_|refine nc [0] [0] h5 rfl rfl rfl ⟨rfl,trivial⟩ ?_|(refine F6 6 ?_;refine O0 (id:=6) (σ':=⟨[(0,.ref 0 0),(4,.ref 1 0),(5,.ref 2 0),(6,.ref 3 0),(7,.iptr (O6 s rows)),(8,.iptr (BO d)),(9,.sl 2 (Q.map B4))],6,[(0,some (.box [.sl 1 (l.map N9),.i b2])),(1,some (.box PL)),(2,some (.box PM)),(3,some (.box Wg))]⟩) (A6 h0) ?_;refine G9 (id:=6) ⟨[(4,.ref 1 0),(5,.ref 2 0),(6,.ref 3 0),(7,.iptr (O6 s rows)),(8,.iptr (BO d)),(11,.ref 6 0)],7,[(0,some (.box [.sl 1 (l.map N9),.i b3])),(1,some (.box PL)),(2,some (.box PM)),(3,some (.box Wg)),(6,some (.box (Fx X)))]⟩ ?_ ?_)|(refine F6 7 ?_;refine O0 (id:=7) (σ':=⟨[(4,.ref 1 0),(5,.ref 2 0),(6,.ref 3 0),(7,.iptr (O6 s rows)),(8,.iptr (BO d)),(11,.iptr (Fx X))],7,[(0,some (.box [.sl 1 (l.map N9),.i b3])),(1,some (.box PL)),(2,some (.box PM)),(3,some (.box Wg))]⟩) (A6 h0) ?_;refine G9 (id:=7) ⟨[(4,.ref 1 0),(5,.ref 2 0),(6,.ref 3 0)],7,[(0,some (.box [.sl 1 (l.map N9),.i b3])),(1,some (.box (O6 s rows))),(2,some (.box (BO d))),(3,some (.box (Fx X)))]⟩ ?_ ?_) |refine S2 ?_|(refine T6 ?_ ?_<;>intro h<;>try exact V1 h)|intro el lU lV|intro el lU|exact T4|refine T5 ?_ ?_|intro ex|refine A1 nY ?_|refine A1 h2 ?_|refine nc [0] [0] h3 rfl rfl rfl ⟨rfl,trivial⟩ ?_|refine A1 h4 ?_)<;>try conv=>whnf)
  all_goals first
   |(exfalso;omega)
   |exact A9 h0 rfl ⟨rfl,rfl,rfl,rfl,rfl,rfl,trivial⟩ ⟨rfl,rfl,rfl,rfl,rfl,trivial⟩ rfl rfl rfl
   |exact A9 h0 rfl ⟨rfl,rfl,rfl,trivial⟩ ⟨rfl,rfl,rfl,rfl,trivial⟩ rfl rfl rfl
   |exact I7 (rvs:=[.cell 4 dz,.cell 5 eE,.cell 6 ki]) (vs:=[.agg (O6 s rows),EN d,c9 X]) ⟨1,_,_,rfl,rfl,inferInstance,rfl,rfl,2,_,_,rfl,rfl,inferInstance,rfl,rfl,3,_,_,rfl,rfl,inferInstance,rfl,rfl,trivial⟩ rfl rfl (A6 h0) rfl
end Go.Proofs.YtiphlhoclaogjaaGreatDoor

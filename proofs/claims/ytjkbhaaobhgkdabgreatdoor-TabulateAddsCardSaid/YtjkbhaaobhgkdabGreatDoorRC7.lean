/- Chapter 18: tables: the program. -/
import Derived.Test.YtjkbhaaobhgkdabGreatDoorRTb2
import Derived.Test.YtjkbhaaobhgkdabGreatDoorRAvTy
import Derived.Test.YtjkbhaaobhgkdabGreatDoorRE3
import Derived.Test.YtjkbhaaobhgkdabGreatDoorRCe3
import Derived.Test.YtjkbhaaobhgkdabGreatDoorRKa0
import Derived.Test.YtjkbhaaobhgkdabGreatDoorRTb1
import Derived.Test.YtjkbhaaobhgkdabGreatDoorRC1
import Derived.Test.YtjkbhaaobhgkdabGreatDoorRSx
import Derived.Test.YtjkbhaaobhgkdabGreatDoorRCe1
set_option linter.unusedVariables false
set_option linter.unnecessarySimpa false
set_option linter.unusedSimpArgs false
set_option maxHeartbeats 64000000
namespace Go.Proofs.YtjkbhaaobhgkdabGreatDoor
open Go Go.Av
attribute [local irreducible] D0 B0 D2 C7 DQ D1 C8 St.le A3 B6
set_option maxRecDepth 100000
theorem IC{s:A4}{x:K3}{dims:List Pk}{mea:Int}{cnd:B1}(h:¬Ax s x dims mea cnd=0):Jt s x dims mea cnd=⟨[],0,[]⟩:=if_neg h
theorem Lc(s:A4)(x:K3)(dims:List Pk)(mea:Int)(cnd:B1):A3 Tryz.prog 7 [sA s,BP x,.sl 2 (dims.map B5),.i mea,E7 cnd] (.tup [BT (Jt s x dims mea cnd),.i (Ax s x dims mea cnd)]):=by
 by_cases e1:¬V4 s x=0
 ·have hE:Ax s x dims mea cnd=V4 s x:=if_pos e1
  rw[IC (by rw[hE];exact e1),hE]
  exact jD s x dims mea cnd e1
 have e1:=Decidable.of_not_not e1
 by_cases e2:¬N4 s (Ab dims mea cnd)=0
 ·have hE:Ax s x dims mea cnd=N4 s (Ab dims mea cnd):=by unfold Ax;rw[if_neg (fun h=>h e1),if_pos e2]
  rw[IC (by rw[hE];exact e2),hE]
  exact jE s x dims mea cnd e1 e2
 have e2:=Decidable.of_not_not e2
 cases e3:AM x.picks (CF s (DG dims mea cnd))with
 |false =>
  have hE:Ax s x dims mea cnd=23:=by unfold Ax;rw[if_neg (fun h=>h e1),if_neg (fun h=>h e2),if_pos e3]
  rw[IC (by rw[hE];decide),hE]
  exact jF s x dims mea cnd e1 e2 e3
 |true =>
  have hE:Ax s x dims mea cnd=if (V8 s dims [[]]).isSome=false then 1 else 0:=by unfold Ax;rw[if_neg (fun h=>h e1),if_neg (fun h=>h e2),if_neg (by rw[e3];decide)]
  cases hL:V8 s dims [[]]with
  |none =>
   rw[hL]at hE
   have hE:Ax s x dims mea cnd=1:=hE
   rw[IC (by rw[hE];decide),hE]
   exact jG s x dims mea cnd e1 e2 e3 hL
  |some L =>
   rw[hL]at hE
   have hE:Ax s x dims mea cnd=0:=hE
   have hT:Jt s x dims mea cnd=⟨dims,mea,S7 s x dims mea L (u7 s x cnd (Aw mea))⟩:=by unfold Jt;rw[if_pos hE,hL];rfl
   rw[hT,hE]
   by_cases hm:0≤mea
   ·exact lU s x dims mea cnd L e1 e2 e3 hL hm
   ·exact lT s x dims mea cnd L e1 e2 e3 hL hm
end Go.Proofs.YtjkbhaaobhgkdabGreatDoor
namespace Go.Av
open Go Go.RowKit
theorem Vl{P:Program}{f m:Nat}{args:List AV}{r:AV}(h:B6 P f 0 [] args m [] r)(hc:I8 r=true):A3 P f args r:=by
 refine⟨h.1,fun X w vs hX oM hl pz=>?_⟩
 have nf:∀θ:Th,∀k,¬owned θ [] k:=fun θ k ⟨i,b,hi,_⟩=>by cases hi
 refine Calls.mono (h.2 X ⟨fun _=>undef,fun _ _=>none⟩ w vs hX (oM.mono (fun k _ h=>h.elim id fun h=>(nf _ k h).elim) fun _ _ _=>rfl) ⟨(fun i b hi=>by cases hi),(fun i j b b' k hi=>by cases hi),(fun i b k hi=>by cases hi)⟩ hl fun j a v hj hv=>.im ((pz j a v hj hv).mono (fun _ _ _=>rfl) fun k _ hu=>?_)) ?_
 ·rcases hu with hu|⟨i,b,hi,_⟩
  ·exact hu
  ·cases hi
 ·rintro e w' ⟨⟨v,θ',rfl,hv,rH,nT,hθ⟩,rz,qP,rL,nY,oh⟩
  refine⟨v,rfl,((Q8 hc).im hv).mono (fun _ _ _=>rfl) fun k _ hu=>.inl hu,rz,qP,rL,nY,fun k hk=>oh k hk (nf _ k)⟩
end Go.Av
namespace Go.Proofs.YtjkbhaaobhgkdabGreatDoor
open Go Go.Av
attribute [local irreducible] D0 B0 D2 C7 DQ D1 C8 St.le A3 B6
set_option maxRecDepth 100000
theorem UQ(s:A4)(x:K3)(cnd:B1)(nW:List Int):A3 Tryz.prog 25 [sA s,BP x,E7 cnd,.sl 1 (nW.map wA)] (.sl 1 ((u7 s x cnd nW).map wA)) :=
 Vl (MH (m2:=1) (hp2:=[]) (r2:=.sl 1 ((u7 s x cnd nW).map wA)) (Gb s x cnd nW) rfl fun E h0=>A6 h0) rfl
def ID:K3:=⟨[112],0,[⟨1,1⟩],[[4,1],[9,2]]⟩
def Ac:LZ:=⟨[⟨1,1⟩],-1,[⟨[-1],2,0,0,0,0,[4,9]⟩,⟨[1],1,0,0,0,0,[4]⟩,⟨[2],1,0,0,0,0,[9]⟩]⟩
theorem ey:Jt Js ID [⟨1,1⟩] (-1) PK=Ac:=by kernel_rfl
theorem ez:Ax Js ID [⟨1,1⟩] (-1) PK=0:=by kernel_rfl
theorem fA:u7 Js ID PK []=[0,1]:=by kernel_rfl
abbrev UR:AV:=.agg [.i 1,.i 0,.i 0,.i 0,.i 0,n7]
theorem US:NL UR (E7 PK):=EE ⟨.refl _,.refl _,.refl _,.refl _,.refl _,.nil 6,trivial⟩
theorem UT:A3 Tryz.prog 10 [] (.b true):=by
 have c1:=CA ((Lc Js ID [⟨1,1⟩] (-1) PK).congr (show _=AV.tup [BT Ac,.i 0] by rw[ey,ez])) (l':=[UM,BP ID,.sl 2 [[.i 1,.i 1]],.i (-1),UR]) ⟨Kj,.refl _,.refl _,.refl _,US,trivial⟩
 have c2:=(La Ac [2]).congr (congrArg AV.i (show _=2 by kernel_rfl))
 have c3:=CA ((Ik Js Ac 2 0).congr (congrArg AV.b (show UB Ac 2 0=true by kernel_rfl))) (l':=[UM,BT Ac,.i 2,.i 0]) ⟨Kj,.refl _,.refl _,.refl _,trivial⟩
 have c4:=CA ((Ik Js Ac 0 2).congr (congrArg AV.b (show UB Ac 0 2=false by kernel_rfl))) (l':=[UM,BT Ac,.i 0,.i 2]) ⟨Kj,.refl _,.refl _,.refl _,trivial⟩
 have c5:=CA ((UQ Js ID PK []).congr (congrArg (fun z:List Int=>AV.sl 1 (z.map wA)) fA)) (l':=[UM,BP ID,UR,n7]) ⟨Kj,.refl _,US,.nil 1,trivial⟩
 have c7:=(OE [0,1] [0,1]).congr (congrArg AV.b (decide_eq_true rfl))
 obtain⟨d,m,cells,hT⟩:∃d m cells,Ac=⟨d,m,cells⟩:=⟨_,_,_,rfl⟩
 have hT2:BT Ac=.agg [.sl 2 (d.map B5),.i m,.sl 7 (cells.map T3)]:=by rw[hT]
 obtain⟨x0,zc,h0r,pb⟩:∃x:F3,x.cnt=2∧x.rows=[4,9]∧cells[(0:Int).toNat]?=some x:=by
  have:cells=Ac.cells:=by rw[hT]
  rw[this];exact⟨⟨[-1],2,0,0,0,0,[4,9]⟩,rfl,rfl,rfl⟩
 obtain⟨x2,h2c,qb⟩:∃x:F3,x.cnt=1∧cells[(2:Int).toNat]?=some x:=by
  have:cells=Ac.cells:=by rw[hT]
  rw[this];exact⟨⟨[2],1,0,0,0,0,[9]⟩,rfl,rfl⟩
 have nl:cells.length=3:=by
  have:cells=Ac.cells:=by rw[hT]
  rw[this];rfl
 rw[hT2]at c1 c2 c3 c4
 have c6:=(OE x0.rows [4,9]).congr (congrArg AV.b (decide_eq_true h0r))
 clear hT hT2
 refine C0 Tryz.func10 88 fun nQ E h0=>?_
 clear nQ
 repeat'((first|(refine A2 (x:=x0) pb (by omega) ?_)|(refine A2 (x:=x2) qb (by omega) ?_)|refine A1 c1 ?_|refine A1 c2 ?_|refine A1 c3 ?_|refine A1 c4 ?_|refine A1 c5 ?_|refine A1 c6 ?_|refine A1 c7 ?_|(refine B8 ?_ ?_;kernel_rfl) |refine S2 ?_|(refine T6 ?_ ?_<;>intro h<;>try exact V1 h)|intro el nN nP|intro el nN|exact T4|refine T5 ?_ ?_|intro ex)<;>try conv=>whnf)
 all_goals first
  |exact A0 rfl rfl
  |(exfalso;omega)
theorem OI(s:A4)(c:B1)(v:Int)(ho:c.op=2∨c.op=3∨c.op=4)(h2:c.op=2→∃x lx,0≤c.col∧s.cols[c.col.toNat]?=some x∧0≤x.lst∧s.lists[x.lst.toNat]?=some lx):A3 Tryz.prog 169 [sA s,E7 c,.i v] (.i (R3 s c v)):=by
 rw[F8]
 refine C0 Tryz.func169 46 fun nQ E h0=>?_
 obtain⟨om,oF,pV⟩:=W7 (s:=s) (nQ _ (by simp))
 clear nQ
 unfold R3
 by_cases pd:c.op=2
 ·obtain⟨x,lx,g0,g1,g2,g3⟩:=h2 pd
  rw[if_pos pd,B7 g1,I7 g3]
  have yL:=VT lx.1 lx.2 v c.code (pV lx (List.mem_of_getElem? g3))
  repeat'((first|(refine A2 (x:=x) g1 (by omega) ?_)|(refine A2 (x:=lx) g3 (by omega) ?_)|refine A1 yL ?_|(refine B8 ?_ ?_;kernel_rfl) |refine S2 ?_|(refine T6 ?_ ?_<;>intro h<;>try exact V1 h)|intro el nN nP|intro el nN|exact T4|refine T5 ?_ ?_|intro ex)<;>try conv=>whnf)
  all_goals first
   |exact A0 rfl (congrArg AV.i (by rw[h];rfl))
 ·rw[if_neg pd]
  repeat'((first|(refine B8 ?_ ?_;kernel_rfl) |refine S2 ?_|(refine T6 ?_ ?_<;>intro h<;>try exact V1 h)|intro el nN nP|intro el nN|exact T4|refine T5 ?_ ?_|intro ex)<;>try conv=>whnf)
  all_goals first
   |(exfalso;rcases ho with ho|ho|ho<;>contradiction)
   |(rw[if_pos (by omega)];refine A0 rfl (congrArg AV.i ?_);unfold GW;first|(rw[decide_eq_true (by assumption)];rfl)|(rw[decide_eq_false (by assumption)];rfl))
   |(rw[if_neg (by omega),if_pos (by omega)];exact A0 rfl rfl)
   |(rw[if_neg (by omega),if_neg (by omega)];refine A0 rfl (congrArg AV.i ?_);unfold GW;first|(rw[decide_eq_true (by omega)];rfl)|(rw[decide_eq_false (by omega)];rfl))
theorem Vm(c:B1):R2 c≤100000→A3 Tryz.prog 196 [E7 c] (.sl 6 ((Y5 c).map K2)):=by
 refine N9 (p:=fun c=>R2 c≤100000→A3 Tryz.prog 196 [E7 c] (.sl 6 ((Y5 c).map K2))) (fun c ih ht=>?_) c
 rw[Db]at ht
 rw[F8,FA]
 refine C0 Tryz.func196 36 fun nQ E h0=>?_
 have nO:c.kids.length≤9223372036854775807:=by
  have:=((nQ _ (List.mem_cons_self ..)).agg (.sl 6 (c.kids.map K2)) (by simp)).sl
  simpa using this
 clear nQ
 repeat'((first|refine S2 ?_|(refine T6 ?_ ?_<;>intro h<;>try exact V1 h)|intro el nN nP|intro el nN|exact T4|refine T5 ?_ ?_|intro ex)<;>try conv=>whnf)
 all_goals first
  |(rw[if_pos (by omega)];refine A0 rfl ?_;rw[List.map_cons,K2,On];rfl)
  |skip
 rw[if_neg (by omega)]
 refine B2 (ι:=Nat) (fun k=>⟨[(1,.ref 0 0),(3,.row 1 0 (X3 (c.kids.take k)).length),(4,.i k)],2,[(0,some (.box (O4 c))),(1,some (.row 40 6 0 ((X3 (c.kids.take k)).map K2)))]⟩) (fun k=>k≤c.kids.length) (fun k=>c.kids.length-k) 0 (Nat.zero_le _)
  (C2 (K4 (d:=3) (e:=40) (sz:=6) rfl) (A8 h0 rfl ⟨rfl,rfl,rfl,trivial⟩ ⟨rfl,⟨0,rfl⟩,trivial⟩ rfl rfl rfl)) (fun k hk=>?_)
 have ob:=JS c.kids k
 repeat'((first|(refine A1 (ih _ (List.mem_of_getElem? (by assumption)) (by have:=He el (List.mem_of_getElem? nN);omega)) ?_)|(refine J4 ?_ ?_;(have q1:=Gu el;have q2:=He el (List.mem_of_getElem? nN);simp only[List.length_map];omega)) |refine S2 ?_|(refine T6 ?_ ?_<;>intro h<;>try exact V1 h)|intro el nN nP|intro el nN|exact T4|refine T5 ?_ ?_|intro ex)<;>try conv=>whnf)
 all_goals first
  |exact⟨k+1,by omega,by omega,A8 h0 rfl ⟨rfl,congrArg (fun z:Nat=>some (AV.row 1 0 z)) (by rw[Fy _ _ nN,List.length_append,List.length_map]),rfl,trivial⟩ ⟨rfl,⟨_,congrArg (C9.row 40 6 _) (by rw[Fy _ _ nN,List.map_append])⟩,trivial⟩ rfl rfl rfl⟩
  |exact A0 rfl (congrArg (fun z=>AV.sl 6 ((X3 z).map K2)) (DZ (by assumption)))
theorem UU(a b:List Pk):A3 Tryz.prog 121 [.sl 2 (a.map B5),.sl 2 (b.map B5)] (.b (AM b a)):=by
 refine C0 Tryz.func121 49 fun nQ E h0=>?_
 have hla:a.length≤9223372036854775807:=by
  have:=(nQ (.sl 2 (a.map B5)) (by simp)).sl
  simpa using this
 have tx:b.length≤9223372036854775807:=by
  have:=(nQ (.sl 2 (b.map B5)) (by simp)).sl
  simpa using this
 clear nQ
 repeat'((first|refine S2 ?_|(refine T6 ?_ ?_<;>intro h<;>try exact V1 h)|intro el nN nP|intro el nN|exact T4|refine T5 ?_ ?_|intro ex)<;>try conv=>whnf)
 refine B2 (ι:=Nat) (fun i=>⟨[(0,.sl 2 (a.map B5)),(1,.sl 2 (b.map B5)),(5,.i i)],0,[]⟩) (fun i=>R0 (fun n=>!(b.any (AL n))) a i) (fun i=>a.length-i) 0 (R0.zero _ _)
  (A6 h0) (fun i hI=>?_)
 have hi:=hI.1
 repeat'((first|refine S2 ?_|(refine T6 ?_ ?_<;>intro h<;>try exact V1 h)|intro el nN nP|intro el nN|exact T4|refine T5 ?_ ?_|intro ex)<;>try conv=>whnf)
 ·obtain⟨n,hn⟩:∃n,a[i]?=some n:=⟨_,List.getElem?_eq_getElem (by omega)⟩
  refine B2 (ι:=Nat) (fun k=>⟨[(0,.sl 2 (a.map B5)),(1,.sl 2 (b.map B5)),(5,.i i),(6,.b ((b.take k).any (AL n))),(7,.i k)],0,[]⟩) (fun k=>k≤b.length) (fun k=>b.length-k) 0 (Nat.zero_le _)
   (A6 h0) (fun k hk=>?_)
  have pD:∀p,b[k]?=some p→(b.take (k+1)).any (AL n)=((b.take k).any (AL n) || AL n p):=fun p hp=>by rw[I3 hp,List.any_append];simp
  generalize hf:(b.take k).any (AL n)=f at *
  repeat'((first|(refine A2 (x:=n) hn (by omega) ?_)|(refine B8 ?_ ?_;kernel_rfl) |refine S2 ?_|(refine T6 ?_ ?_<;>intro h<;>try exact V1 h)|intro el nN nP|intro el nN|exact T4|refine T5 ?_ ?_|intro ex)<;>try conv=>whnf)
  all_goals first
   |(have e:(b.take (k+1)).any (AL n)=decide (el.lev≥n.lev):=by
      rw[pD _ nN,(by assumption:f=false),Bool.false_or]
      exact decide_eq_decide.2 (by omega)
     exact⟨k+1,by omega,by omega,A8 h0 rfl ⟨rfl,rfl,rfl,congrArg (fun z=>some (AV.b z)) e.symm,rfl,trivial⟩ trivial rfl rfl rfl⟩)
   |(have e:(b.take (k+1)).any (AL n)=false:=by
      rw[pD _ nN,(by assumption:f=false),Bool.false_or]
      exact decide_eq_false (by omega)
     exact⟨k+1,by omega,by omega,A8 h0 rfl ⟨rfl,rfl,rfl,congrArg (fun z=>some (AV.b z)) e.symm,rfl,trivial⟩ trivial rfl rfl rfl⟩)
   |(obtain⟨p,hp⟩:∃p,b[k]?=some p:=⟨_,List.getElem?_eq_getElem (by omega)⟩
     have e:(b.take (k+1)).any (AL n)=true:=by rw[pD p hp,(by assumption:f=true),Bool.true_or]
     exact⟨k+1,by omega,by omega,A8 h0 rfl ⟨rfl,rfl,rfl,congrArg (fun z=>some (AV.b z)) e.symm,rfl,trivial⟩ trivial rfl rfl rfl⟩)
   |(have e:(!(b.any (AL n)))=true:=by rw[←DZ (l:=b) (k:=k) (by assumption),hf,(by assumption:f=false)];rfl
     have:=hI.hit hn e
     exact A0 rfl (congrArg AV.b (by unfold AM;rw[←this];rfl)))
   |(have e:(!(b.any (AL n)))=false:=by rw[←DZ (l:=b) (k:=k) (by assumption),hf,(by assumption:f=true)];rfl
     exact⟨i+1,hI.step hn e,by omega,A6 h0⟩)
 all_goals first
  |(have:=hI.done (by assumption)
    exact A0 rfl (congrArg AV.b (by unfold AM;rw[←this];rfl)))
end Go.Proofs.YtjkbhaaobhgkdabGreatDoor

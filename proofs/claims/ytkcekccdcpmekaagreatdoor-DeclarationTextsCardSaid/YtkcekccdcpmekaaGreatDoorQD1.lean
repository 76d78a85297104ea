/- Chapter 5: the reader's numbers, and what stands behind a column's name. Chapter 5: the reader: a condition about one column, behind the column's name. Chapter 5: the reader: conditions. Chapter 5: texts of conditions; conditions out of texts. -/
import Derived.Test.YtkcekccdcpmekaaGreatDoorQNm1
import Derived.Test.YtkcekccdcpmekaaGreatDoorQC3
import Derived.Lib.AtoiAllCases
import Derived.Lib.ItoaLen
set_option linter.unusedVariables false
set_option linter.unnecessarySimpa false
set_option linter.unusedSimpArgs false
set_option maxHeartbeats 64000000
namespace Go.Proofs.YtkcekccdcpmekaaGreatDoor
open Go Go.Av
attribute [local irreducible] E8 B5 E5 E1 DQ E7 E9 St.le A4 A9
set_option maxRecDepth 100000
theorem Ao(w t:List UInt8):A8 w t=(t,false)∨∃u,A8 w t=(u,true)∧u.length≤t.length:=by
 unfold A8
 split
 ·exact .inr ⟨_,rfl,by simp⟩
 ·exact .inl rfl
theorem JQ(s:A5)(t u w r sg:List UInt8)(neg:Bool)(left:Int)(hc:A8 [45] t=(u,neg))(hw:u.takeWhile L1=w)(hr:u.dropWhile L1=r)(wo:sg=if neg=true then [45]else [])(ht:t.length≤140737488355328)(hu:u.length≤t.length)(v:Int)(b:Bool)
  (px:A4 Tryz.prog 162 [.str (sg++w)] (.tup [.v (.int .i64 v),if b=true then .v .nilIface else .err])) (hb:b=true→-9223372036854775808≤v∧v≤9223372036854775807) :
  A9 Tryz.prog 193 1 (EW s t left) [.ref 0 0] 1 (EW s r left) (.tup [.i v,.b (b && decide (Lib.itoa v=sg++w))]):=by
 have r1:=a7 s t [45] left (by omega) (by decide)
 have r2:=JG s u left (by omega)
 have lX:=P7 L1 u
 rw[hc]at r1
 rw[hw]at lX
 rw[hw,hr]at r2
 dsimp only at r1
 have r4:b=true→A4 Tryz.prog 22 [.v (.int .i64 v)] (.str (Lib.itoa v)):=fun h=>P3 v (hb h).1 (hb h).2
 cases neg
 ·obtain rfl:sg=[]:=wo
  cases b
  ·rw[if_neg Bool.false_ne_true]at px
   refine G4 Tryz.func193 30 fun E h0=>?_
   repeat'((first|refine⟨C4 [0] [0] r1 rfl rfl rfl rfl rfl ⟨rfl,trivial⟩ rfl rfl rfl rfl rfl ?_⟩|refine⟨C4 [0] [0] r2 rfl rfl rfl rfl rfl ⟨rfl,trivial⟩ rfl rfl rfl rfl rfl ?_⟩|refine A0 px ?_|(refine E0 ?_ ?_;(show 0+w.length≤9223372036854775807;omega)) |refine S2 ?_|(refine T6 ?_ ?_<;>intro h<;>try exact V1 h)|intro el ke kg|intro el ke|exact T4|refine T5 ?_ ?_|intro ex)<;>try conv=>whnf)
   all_goals first
    |exact C9 (rvs:=[.tmp 2,.tmp 3]) (vs:=[_,_]) trivial rfl rfl (B2 h0) rfl
  ·have r5:=r4 rfl
   rw[if_pos rfl]at px
   refine G4 Tryz.func193 30 fun E h0=>?_
   repeat'((first|refine⟨C4 [0] [0] r1 rfl rfl rfl rfl rfl ⟨rfl,trivial⟩ rfl rfl rfl rfl rfl ?_⟩|refine⟨C4 [0] [0] r2 rfl rfl rfl rfl rfl ⟨rfl,trivial⟩ rfl rfl rfl rfl rfl ?_⟩|refine A0 px ?_|(refine E0 ?_ ?_;(show 0+w.length≤9223372036854775807;omega))|refine A0 r5 ?_ |refine S2 ?_|(refine T6 ?_ ?_<;>intro h<;>try exact V1 h)|intro el ke kg|intro el ke|exact T4|refine T5 ?_ ?_|intro ex)<;>try conv=>whnf)
   all_goals first
    |exact C9 (rvs:=[.tmp 2,.tmp 3]) (vs:=[_,_]) trivial rfl rfl (B2 h0) rfl
 ·obtain rfl:sg=[45]:=wo
  cases b
  ·rw[if_neg Bool.false_ne_true]at px
   refine G4 Tryz.func193 30 fun E h0=>?_
   repeat'((first|refine⟨C4 [0] [0] r1 rfl rfl rfl rfl rfl ⟨rfl,trivial⟩ rfl rfl rfl rfl rfl ?_⟩|refine⟨C4 [0] [0] r2 rfl rfl rfl rfl rfl ⟨rfl,trivial⟩ rfl rfl rfl rfl rfl ?_⟩|refine A0 px ?_|(refine E0 ?_ ?_;(show 1+w.length≤9223372036854775807;omega)) |refine S2 ?_|(refine T6 ?_ ?_<;>intro h<;>try exact V1 h)|intro el ke kg|intro el ke|exact T4|refine T5 ?_ ?_|intro ex)<;>try conv=>whnf)
   all_goals first
    |exact C9 (rvs:=[.tmp 2,.tmp 3]) (vs:=[_,_]) trivial rfl rfl (B2 h0) rfl
  ·have r5:=r4 rfl
   rw[if_pos rfl]at px
   refine G4 Tryz.func193 30 fun E h0=>?_
   repeat'((first|refine⟨C4 [0] [0] r1 rfl rfl rfl rfl rfl ⟨rfl,trivial⟩ rfl rfl rfl rfl rfl ?_⟩|refine⟨C4 [0] [0] r2 rfl rfl rfl rfl rfl ⟨rfl,trivial⟩ rfl rfl rfl rfl rfl ?_⟩|refine A0 px ?_|(refine E0 ?_ ?_;(show 1+w.length≤9223372036854775807;omega))|refine A0 r5 ?_ |refine S2 ?_|(refine T6 ?_ ?_<;>intro h<;>try exact V1 h)|intro el ke kg|intro el ke|exact T4|refine T5 ?_ ?_|intro ex)<;>try conv=>whnf)
   all_goals first
    |exact C9 (rvs:=[.tmp 2,.tmp 3]) (vs:=[_,_]) trivial rfl rfl (B2 h0) rfl
theorem Ko(s:A5)(t:List UInt8)(left:Int)(ht:t.length≤140737488355328):A9 Tryz.prog 193 1 (EW s t left) [.ref 0 0] 1 (EW s (U0 t).2.2 left) (.tup [.i (U0 t).1,.b (U0 t).2.1]):=by
 have hl:=K2 [45] t
 have lX:=P7 L1 (A8 [45] t).1
 have hz:(Cj t).length≤281474976710656:=by
  unfold Cj
  rw[List.length_append]
  have:(if (A8 [45] t).2=true then [45]else ([]:List UInt8)).length≤1:=by split<;>simp
  omega
 cases h:Lib.atoiAll (Cj t)with
 |ok v =>
  have:=JQ s t (A8 [45] t).1 _ _ _ (A8 [45] t).2 left rfl rfl rfl rfl ht hl v true (UK _ hz h) (fun _=>Lib.atoiAll_bounds h)
  rw[Bool.true_and]at this
  unfold U0 Hq
  rw[h]
  exact this
 |range =>
  have:=JQ s t (A8 [45] t).1 _ _ _ (A8 [45] t).2 left rfl rfl rfl rfl ht hl _ false (RI _ hz h) (fun h=>by cases h)
  rw[Bool.false_and]at this
  unfold U0 Hq
  rw[h]
  exact this
 |_ =>
  have:=JQ s t (A8 [45] t).1 _ _ _ (A8 [45] t).2 left rfl rfl rfl rfl ht hl 0 false (RH _ hz h) (fun h=>by cases h)
  rw[Bool.false_and]at this
  unfold U0 Hq
  rw[h]
  exact this
abbrev jb:List AV:=[.i 0,.i 0,.i 0,.i 0,.i 0,.v (.slice none 0 0)]
theorem WB(s:A5)(hr:C8 s=0)(t:List UInt8)(col left:Int)(x:H2)(hx:s.cols[col.toNat]?=some x)(h0c:0≤col)(ht:t.length≤140737488355328):A9 Tryz.prog 182 1 (EW s t left) [.ref 0 0,.i col] 1 (EW s (AL s col t).2.2 left) (.tup [G9 (AL s col t).1,.b (AL s col t).2.1]):=by
 unfold AL
 rw[D4 hx]
 have r1:=a7 s t K3 left (by omega) (by decide)
 rcases Ao K3 t with e1|⟨u,e1,hu⟩
 case inr =>
  rw[e1]at r1 ⊢
  dsimp only at r1 ⊢
  rw[if_pos rfl]
  by_cases hk:x.kind=2
  ·rw[if_pos hk]
   have hl:=AA.lst hr (List.mem_of_getElem? hx) hk
   obtain⟨lx,lr⟩:∃l,s.lists[x.lst.toNat]?=some l:=⟨_,List.getElem?_eq_getElem (by omega)⟩
   rw[M8 lr]
   have mz:chk lx.1 lx.2=0:=(Q5 hr).2.2.1 _ (List.mem_of_getElem? lr)
   have hg:=Gt mz
   have r2:=JG s u left (by omega)
   have r3:=Xf lx.1 lx.2 (u.takeWhile L1) (by omega)
   generalize u.takeWhile L1=w at *
   generalize u.dropWhile L1=r at *
   generalize z8 lx.1 lx.2 w=code at *
   refine G4 Tryz.func182 80 fun E h0=>?_
   repeat'((first|refine⟨C4 [0] [0] r1 rfl rfl rfl rfl rfl ⟨rfl,trivial⟩ rfl rfl rfl rfl rfl ?_⟩|refine⟨C4 [0] [0] r2 rfl rfl rfl rfl rfl ⟨rfl,trivial⟩ rfl rfl rfl rfl rfl ?_⟩|refine A0 r3 ?_|(refine A2 (x:=x) hx (by omega) ?_)|(refine A2 (x:=lx) lr (by omega) ?_)|(refine B6 6 ?_;refine C5 (id:=6) ⟨[(0,.ref 0 0),(4,.ref 1 0),(5,.b false),(6,.ref 2 0)],3,[(0,some (.box [.sl 2 (s.lists.map R0),.sl 7 (s.cols.map M7),.str r,.i left])),(1,some (.box jb)),(2,some (.box [.i 2,.i col,.i code,.i 0,.i 0,.v (.slice none 0 0)]))]⟩ ?_ ?_)|(refine B6 7 ?_;refine C5 (id:=7) ⟨[(4,.ref 1 0),(5,.b (decide (0≤code)))],2,[(0,some (.box [.sl 2 (s.lists.map R0),.sl 7 (s.cols.map M7),.str r,.i left])),(1,some (.box [.i 2,.i col,.i code,.i 0,.i 0,.v (.slice none 0 0)]))]⟩ ?_ ?_) |refine S2 ?_|(refine T6 ?_ ?_<;>intro h<;>try exact V1 h)|intro el ke kg|intro el ke|exact T4|refine T5 ?_ ?_|intro ex)<;>try conv=>whnf)
   all_goals first
    |exact B0 h0 rfl ⟨rfl,rfl,rfl,rfl,trivial⟩ ⟨rfl,rfl,rfl,trivial⟩ rfl rfl rfl
    |exact B0 h0 rfl ⟨rfl,rfl,trivial⟩ ⟨rfl,rfl,trivial⟩ rfl rfl rfl
    |exact C9 (rvs:=[.cell 4 Q6,.tmp 5]) (vs:=[_,_]) ⟨1,_,_,rfl,rfl,inferInstance,rfl,rfl,trivial⟩ rfl rfl (B4 (H4 4 _ rfl (I4 _ _ _ _ _)) (B2 h0)) rfl
  ·rw[if_neg hk]
   refine G4 Tryz.func182 80 fun E h0=>?_
   repeat'((first|refine⟨C4 [0] [0] r1 rfl rfl rfl rfl rfl ⟨rfl,trivial⟩ rfl rfl rfl rfl rfl ?_⟩|(refine A2 (x:=x) hx (by omega) ?_) |refine S2 ?_|(refine T6 ?_ ?_<;>intro h<;>try exact V1 h)|intro el ke kg|intro el ke|exact T4|refine T5 ?_ ?_|intro ex)<;>try conv=>whnf)
   all_goals first
    |(exfalso;omega)
    |exact C9 (rvs:=[.cell 4 Q6,.tmp 5]) (vs:=[_,_]) ⟨1,_,_,rfl,rfl,inferInstance,rfl,rfl,trivial⟩ rfl rfl (B4 (H4 4 _ rfl (I4 _ _ _ _ _)) (B2 h0)) rfl
 rw[e1]at r1 ⊢
 dsimp only at r1 ⊢
 rw[if_neg Bool.false_ne_true]
 have r2:=a7 s t I3 left (by omega) (by decide)
 rcases Ao I3 t with e2|⟨u,e2,hu⟩
 case inr =>
  rw[e2]at r2 ⊢
  dsimp only at r2 ⊢
  rw[if_pos rfl]
  have r3:=Ko s u left (by omega)
  have hn:=LK u
  generalize U0 u=N at *
  obtain⟨lo,ok,v⟩:=N
  dsimp only at r3 hn ⊢
  cases ok
  ·rw[if_neg Bool.false_ne_true]
   refine G4 Tryz.func182 80 fun E h0=>?_
   repeat'((first|refine⟨C4 [0] [0] r1 rfl rfl rfl rfl rfl ⟨rfl,trivial⟩ rfl rfl rfl rfl rfl ?_⟩|refine⟨C4 [0] [0] r2 rfl rfl rfl rfl rfl ⟨rfl,trivial⟩ rfl rfl rfl rfl rfl ?_⟩|refine⟨C4 [0] [0] r3 rfl rfl rfl rfl rfl ⟨rfl,trivial⟩ rfl rfl rfl rfl rfl ?_⟩ |refine S2 ?_|(refine T6 ?_ ?_<;>intro h<;>try exact V1 h)|intro el ke kg|intro el ke|exact T4|refine T5 ?_ ?_|intro ex)<;>try conv=>whnf)
   all_goals first
    |exact C9 (rvs:=[.cell 4 Q6,.tmp 5]) (vs:=[_,_]) ⟨1,_,_,rfl,rfl,inferInstance,rfl,rfl,trivial⟩ rfl rfl (B4 (H4 4 _ rfl (I4 _ _ _ _ _)) (B2 h0)) rfl
  ·rw[if_pos rfl]
   have r4:=a7 s v e8 left (by omega) (by decide)
   rcases Ao e8 v with e3|⟨y,e3,hy⟩
   ·rw[e3]at r4 ⊢
    dsimp only at r4 ⊢
    rw[if_neg Bool.false_ne_true]
    refine G4 Tryz.func182 80 fun E h0=>?_
    repeat'((first|refine⟨C4 [0] [0] r1 rfl rfl rfl rfl rfl ⟨rfl,trivial⟩ rfl rfl rfl rfl rfl ?_⟩|refine⟨C4 [0] [0] r2 rfl rfl rfl rfl rfl ⟨rfl,trivial⟩ rfl rfl rfl rfl rfl ?_⟩|refine⟨C4 [0] [0] r3 rfl rfl rfl rfl rfl ⟨rfl,trivial⟩ rfl rfl rfl rfl rfl ?_⟩|refine⟨C4 [0] [0] r4 rfl rfl rfl rfl rfl ⟨rfl,trivial⟩ rfl rfl rfl rfl rfl ?_⟩ |refine S2 ?_|(refine T6 ?_ ?_<;>intro h<;>try exact V1 h)|intro el ke kg|intro el ke|exact T4|refine T5 ?_ ?_|intro ex)<;>try conv=>whnf)
    all_goals first
     |exact C9 (rvs:=[.cell 4 Q6,.tmp 5]) (vs:=[_,_]) ⟨1,_,_,rfl,rfl,inferInstance,rfl,rfl,trivial⟩ rfl rfl (B4 (H4 4 _ rfl (I4 _ _ _ _ _)) (B2 h0)) rfl
   ·rw[e3]at r4 ⊢
    dsimp only at r4 ⊢
    rw[if_pos rfl]
    have r5:=Ko s y left (by omega)
    generalize U0 y=M at *
    obtain⟨hi,ot,z⟩:=M
    dsimp only at r5 ⊢
    refine G4 Tryz.func182 80 fun E h0=>?_
    repeat'((first|refine⟨C4 [0] [0] r1 rfl rfl rfl rfl rfl ⟨rfl,trivial⟩ rfl rfl rfl rfl rfl ?_⟩|refine⟨C4 [0] [0] r2 rfl rfl rfl rfl rfl ⟨rfl,trivial⟩ rfl rfl rfl rfl rfl ?_⟩|refine⟨C4 [0] [0] r3 rfl rfl rfl rfl rfl ⟨rfl,trivial⟩ rfl rfl rfl rfl rfl ?_⟩|refine⟨C4 [0] [0] r4 rfl rfl rfl rfl rfl ⟨rfl,trivial⟩ rfl rfl rfl rfl rfl ?_⟩|refine⟨C4 [0] [0] r5 rfl rfl rfl rfl rfl ⟨rfl,trivial⟩ rfl rfl rfl rfl rfl ?_⟩ |refine S2 ?_|(refine T6 ?_ ?_<;>intro h<;>try exact V1 h)|intro el ke kg|intro el ke|exact T4|refine T5 ?_ ?_|intro ex)<;>try conv=>whnf)
    all_goals first
     |exact C9 (rvs:=[.cell 4 Q6,.tmp 5]) (vs:=[_,_]) ⟨1,_,_,rfl,rfl,inferInstance,rfl,rfl,trivial⟩ rfl rfl (B4 (H4 4 _ rfl (I4 _ _ _ _ _)) (B2 h0)) rfl
 rw[e2]at r2 ⊢
 dsimp only at r2 ⊢
 rw[if_neg Bool.false_ne_true]
 have r3:=a7 s t S0 left (by omega) (by decide)
 rcases Ao S0 t with e3|⟨u,e3,hu⟩
 ·rw[e3]at r3 ⊢
  dsimp only at r3 ⊢
  rw[if_neg Bool.false_ne_true]
  refine G4 Tryz.func182 80 fun E h0=>?_
  repeat'((first|refine⟨C4 [0] [0] r1 rfl rfl rfl rfl rfl ⟨rfl,trivial⟩ rfl rfl rfl rfl rfl ?_⟩|refine⟨C4 [0] [0] r2 rfl rfl rfl rfl rfl ⟨rfl,trivial⟩ rfl rfl rfl rfl rfl ?_⟩|refine⟨C4 [0] [0] r3 rfl rfl rfl rfl rfl ⟨rfl,trivial⟩ rfl rfl rfl rfl rfl ?_⟩ |refine S2 ?_|(refine T6 ?_ ?_<;>intro h<;>try exact V1 h)|intro el ke kg|intro el ke|exact T4|refine T5 ?_ ?_|intro ex)<;>try conv=>whnf)
  all_goals first
   |exact C9 (rvs:=[.cell 4 Q6,.tmp 5]) (vs:=[_,_]) ⟨1,_,_,rfl,rfl,inferInstance,rfl,rfl,trivial⟩ rfl rfl (B4 (H4 4 _ rfl (I4 _ _ _ _ _)) (B2 h0)) rfl
 ·rw[e3]at r3 ⊢
  dsimp only at r3 ⊢
  rw[if_pos rfl]
  refine G4 Tryz.func182 80 fun E h0=>?_
  repeat'((first|refine⟨C4 [0] [0] r1 rfl rfl rfl rfl rfl ⟨rfl,trivial⟩ rfl rfl rfl rfl rfl ?_⟩|refine⟨C4 [0] [0] r2 rfl rfl rfl rfl rfl ⟨rfl,trivial⟩ rfl rfl rfl rfl rfl ?_⟩|refine⟨C4 [0] [0] r3 rfl rfl rfl rfl rfl ⟨rfl,trivial⟩ rfl rfl rfl rfl rfl ?_⟩ |refine S2 ?_|(refine T6 ?_ ?_<;>intro h<;>try exact V1 h)|intro el ke kg|intro el ke|exact T4|refine T5 ?_ ?_|intro ex)<;>try conv=>whnf)
  all_goals first
   |exact C9 (rvs:=[.cell 4 Q6,.tmp 5]) (vs:=[_,_]) ⟨1,_,_,rfl,rfl,inferInstance,rfl,rfl,trivial⟩ rfl rfl (B4 (H4 4 _ rfl (I4 _ _ _ _ _)) (B2 h0)) rfl
theorem Xz(s:A5)(d:Nat)(hd:d≤10)(f:Int→List UInt8→IL)(hf:∀l u,(f l u).t.length≤u.length∧l-wd d≤(f l u).left∧(f l u).left≤l)(t:List UInt8)(left:Int)(hl:-1000000≤left-2*wd d)(lk:left≤1000000)(ht:t.length≤140737488355328)
  (ih:∀(left:Int) (t:List UInt8),-1000000≤left-wd d→left≤1000000→t.length≤140737488355328→A9 Tryz.prog 160 1 (EW s t left) [.ref 0 0,.i (((d+1:Nat):Int)-1)] 1 (EW s (f left t).t (f left t).left) (.tup [G9 (f left t).c,.b (f left t).ok])) :
  A9 Tryz.prog 180 1 (EW s t left) [.ref 0 0,.i (d+1:Nat)] 1 (EW s (At f left t).t (At f left t).left) (.tup [G9 (At f left t).c,.b (At f left t).ok]):=by
 have hw:=Mk d
 unfold At
 have r1:=ih left t (by omega) lk ht
 obtain⟨k1,k2,k5⟩:=hf left t
 generalize f left t=a at *
 obtain⟨ac,tZ,at',al⟩:=a
 dsimp only at *
 cases tZ
 ·rw[if_neg Bool.false_ne_true]
  refine G4 Tryz.func180 46 fun E h0=>?_
  repeat'((first|refine⟨C4 [0] [0] r1 rfl rfl rfl rfl rfl ⟨rfl,trivial⟩ rfl rfl rfl rfl rfl ?_⟩ |refine S2 ?_|(refine T6 ?_ ?_<;>intro h<;>try exact V1 h)|intro el ke kg|intro el ke|exact T4|refine T5 ?_ ?_|intro ex)<;>try conv=>whnf)
  all_goals first
   |exact C9 (rvs:=[.cell 4 Q6,.tmp 5]) (vs:=[_,_]) ⟨1,_,_,rfl,rfl,inferInstance,rfl,rfl,trivial⟩ rfl rfl (B2 h0) rfl
 rw[if_pos rfl]
 have r2:=a7 s at' K7 al (by omega) (by decide)
 rcases Ao K7 at' with e2|⟨u,e2,hu⟩
 case inr =>
  rw[e2]at r2 ⊢
  dsimp only at r2 ⊢
  rw[if_pos rfl]
  have r3:=ih al u (by omega) (by omega) (by omega)
  obtain⟨k3,k4,k6⟩:=hf al u
  generalize f al u=b at *
  obtain⟨bc,uo,bt,bl⟩:=b
  dsimp only at *
  cases uo
  ·rw[if_neg Bool.false_ne_true]
   refine G4 Tryz.func180 46 fun E h0=>?_
   repeat'((first|refine⟨C4 [0] [0] r1 rfl rfl rfl rfl rfl ⟨rfl,trivial⟩ rfl rfl rfl rfl rfl ?_⟩|refine⟨C4 [0] [0] r2 rfl rfl rfl rfl rfl ⟨rfl,trivial⟩ rfl rfl rfl rfl rfl ?_⟩|refine⟨C4 [0] [0] r3 rfl rfl rfl rfl rfl ⟨rfl,trivial⟩ rfl rfl rfl rfl rfl ?_⟩|(refine B6 11 ?_;refine Bg (id:=11) ⟨[(4,.ref 1 0),(5,.b false)],2,[(0,some (.box [.sl 2 (s.lists.map R0),.sl 7 (s.cols.map M7),.str bt,.i bl])),(1,some (.box [.i 5,.i 0,.i 0,.i 0,.i 0,.sl 6 [I9 ac,I9 bc]]))]⟩ ?_ ?_) |refine S2 ?_|(refine T6 ?_ ?_<;>intro h<;>try exact V1 h)|intro el ke kg|intro el ke|exact T4|refine T5 ?_ ?_|intro ex)<;>try conv=>whnf)
   all_goals first
    |exact B0 h0 rfl ⟨rfl,rfl,trivial⟩ ⟨rfl,rfl,trivial⟩ rfl rfl rfl
    |exact C9 (rvs:=[.cell 4 Q6,.tmp 5]) (vs:=[_,_]) ⟨1,_,_,rfl,rfl,inferInstance,rfl,rfl,trivial⟩ rfl rfl (B4 (H4 4 _ rfl (EX 5 ac bc)) (B2 h0)) rfl
  ·rw[if_pos rfl]
   have r4:=a7 s bt [41] bl (by omega) (by decide)
   generalize A8 [41] bt=q at *
   obtain⟨qt,qb⟩:=q
   dsimp only at *
   refine G4 Tryz.func180 46 fun E h0=>?_
   repeat'((first|refine⟨C4 [0] [0] r1 rfl rfl rfl rfl rfl ⟨rfl,trivial⟩ rfl rfl rfl rfl rfl ?_⟩|refine⟨C4 [0] [0] r2 rfl rfl rfl rfl rfl ⟨rfl,trivial⟩ rfl rfl rfl rfl rfl ?_⟩|refine⟨C4 [0] [0] r3 rfl rfl rfl rfl rfl ⟨rfl,trivial⟩ rfl rfl rfl rfl rfl ?_⟩|refine⟨C4 [0] [0] r4 rfl rfl rfl rfl rfl ⟨rfl,trivial⟩ rfl rfl rfl rfl rfl ?_⟩|(refine B6 11 ?_;refine Bg (id:=11) ⟨[(4,.ref 1 0),(5,.b qb)],2,[(0,some (.box [.sl 2 (s.lists.map R0),.sl 7 (s.cols.map M7),.str qt,.i bl])),(1,some (.box [.i 5,.i 0,.i 0,.i 0,.i 0,.sl 6 [I9 ac,I9 bc]]))]⟩ ?_ ?_) |refine S2 ?_|(refine T6 ?_ ?_<;>intro h<;>try exact V1 h)|intro el ke kg|intro el ke|exact T4|refine T5 ?_ ?_|intro ex)<;>try conv=>whnf)
   all_goals first
    |exact B0 h0 rfl ⟨rfl,rfl,trivial⟩ ⟨rfl,rfl,trivial⟩ rfl rfl rfl
    |exact C9 (rvs:=[.cell 4 Q6,.tmp 5]) (vs:=[_,_]) ⟨1,_,_,rfl,rfl,inferInstance,rfl,rfl,trivial⟩ rfl rfl (B4 (H4 4 _ rfl (EX 5 ac bc)) (B2 h0)) rfl
 rw[e2]at r2 ⊢
 dsimp only at r2 ⊢
 rw[if_neg Bool.false_ne_true]
 have r5:=a7 s at' P1 al (by omega) (by decide)
 rcases Ao P1 at' with e3|⟨u,e3,hu⟩
 ·rw[e3]at r5 ⊢
  dsimp only at r5 ⊢
  rw[if_neg Bool.false_ne_true]
  refine G4 Tryz.func180 46 fun E h0=>?_
  repeat'((first|refine⟨C4 [0] [0] r1 rfl rfl rfl rfl rfl ⟨rfl,trivial⟩ rfl rfl rfl rfl rfl ?_⟩|refine⟨C4 [0] [0] r2 rfl rfl rfl rfl rfl ⟨rfl,trivial⟩ rfl rfl rfl rfl rfl ?_⟩|refine⟨C4 [0] [0] r5 rfl rfl rfl rfl rfl ⟨rfl,trivial⟩ rfl rfl rfl rfl rfl ?_⟩ |refine S2 ?_|(refine T6 ?_ ?_<;>intro h<;>try exact V1 h)|intro el ke kg|intro el ke|exact T4|refine T5 ?_ ?_|intro ex)<;>try conv=>whnf)
  all_goals first
   |exact C9 (rvs:=[.cell 4 Q6,.tmp 5]) (vs:=[_,_]) ⟨1,_,_,rfl,rfl,inferInstance,rfl,rfl,trivial⟩ rfl rfl (B4 (H4 4 _ rfl (I4 6 0 0 0 0)) (B2 h0)) rfl
 rw[e3]at r5 ⊢
 dsimp only at r5 ⊢
 rw[if_pos rfl]
 have r3:=ih al u (by omega) (by omega) (by omega)
 obtain⟨k3,k4,k6⟩:=hf al u
 generalize f al u=b at *
 obtain⟨bc,uo,bt,bl⟩:=b
 dsimp only at *
 cases uo
 ·rw[if_neg Bool.false_ne_true]
  refine G4 Tryz.func180 46 fun E h0=>?_
  repeat'((first|refine⟨C4 [0] [0] r1 rfl rfl rfl rfl rfl ⟨rfl,trivial⟩ rfl rfl rfl rfl rfl ?_⟩|refine⟨C4 [0] [0] r2 rfl rfl rfl rfl rfl ⟨rfl,trivial⟩ rfl rfl rfl rfl rfl ?_⟩|refine⟨C4 [0] [0] r5 rfl rfl rfl rfl rfl ⟨rfl,trivial⟩ rfl rfl rfl rfl rfl ?_⟩|refine⟨C4 [0] [0] r3 rfl rfl rfl rfl rfl ⟨rfl,trivial⟩ rfl rfl rfl rfl rfl ?_⟩|(refine B6 11 ?_;refine Bg (id:=11) ⟨[(4,.ref 1 0),(5,.b false)],2,[(0,some (.box [.sl 2 (s.lists.map R0),.sl 7 (s.cols.map M7),.str bt,.i bl])),(1,some (.box [.i 6,.i 0,.i 0,.i 0,.i 0,.sl 6 [I9 ac,I9 bc]]))]⟩ ?_ ?_) |refine S2 ?_|(refine T6 ?_ ?_<;>intro h<;>try exact V1 h)|intro el ke kg|intro el ke|exact T4|refine T5 ?_ ?_|intro ex)<;>try conv=>whnf)
  all_goals first
   |exact B0 h0 rfl ⟨rfl,rfl,trivial⟩ ⟨rfl,rfl,trivial⟩ rfl rfl rfl
   |exact C9 (rvs:=[.cell 4 Q6,.tmp 5]) (vs:=[_,_]) ⟨1,_,_,rfl,rfl,inferInstance,rfl,rfl,trivial⟩ rfl rfl (B4 (H4 4 _ rfl (EX 6 ac bc)) (B2 h0)) rfl
 ·rw[if_pos rfl]
  have r4:=a7 s bt [41] bl (by omega) (by decide)
  generalize A8 [41] bt=q at *
  obtain⟨qt,qb⟩:=q
  dsimp only at *
  refine G4 Tryz.func180 46 fun E h0=>?_
  repeat'((first|refine⟨C4 [0] [0] r1 rfl rfl rfl rfl rfl ⟨rfl,trivial⟩ rfl rfl rfl rfl rfl ?_⟩|refine⟨C4 [0] [0] r2 rfl rfl rfl rfl rfl ⟨rfl,trivial⟩ rfl rfl rfl rfl rfl ?_⟩|refine⟨C4 [0] [0] r5 rfl rfl rfl rfl rfl ⟨rfl,trivial⟩ rfl rfl rfl rfl rfl ?_⟩|refine⟨C4 [0] [0] r3 rfl rfl rfl rfl rfl ⟨rfl,trivial⟩ rfl rfl rfl rfl rfl ?_⟩|refine⟨C4 [0] [0] r4 rfl rfl rfl rfl rfl ⟨rfl,trivial⟩ rfl rfl rfl rfl rfl ?_⟩|(refine B6 11 ?_;refine Bg (id:=11) ⟨[(4,.ref 1 0),(5,.b qb)],2,[(0,some (.box [.sl 2 (s.lists.map R0),.sl 7 (s.cols.map M7),.str qt,.i bl])),(1,some (.box [.i 6,.i 0,.i 0,.i 0,.i 0,.sl 6 [I9 ac,I9 bc]]))]⟩ ?_ ?_) |refine S2 ?_|(refine T6 ?_ ?_<;>intro h<;>try exact V1 h)|intro el ke kg|intro el ke|exact T4|refine T5 ?_ ?_|intro ex)<;>try conv=>whnf)
  all_goals first
   |exact B0 h0 rfl ⟨rfl,rfl,trivial⟩ ⟨rfl,rfl,trivial⟩ rfl rfl rfl
   |exact C9 (rvs:=[.cell 4 Q6,.tmp 5]) (vs:=[_,_]) ⟨1,_,_,rfl,rfl,inferInstance,rfl,rfl,trivial⟩ rfl rfl (B4 (H4 4 _ rfl (EX 6 ac bc)) (B2 h0)) rfl
theorem aa{α:Type}(p:α→Bool):∀(l:List α) (k:Int),0≤k→0≤K6 p l k→∃x,l[(K6 p l k-k).toNat]?=some x
 |l,k,h0,h=>by
  rcases Tw p l k with h1|⟨h1,h2⟩
  ·omega
  ·exact⟨_,List.getElem?_eq_getElem (by omega)⟩
theorem WC(s:A5)(hr:C8 s=0):∀(d:Nat),d≤10→∀(left:Int) (t:List UInt8),-1000000≤left-wd d→left≤1000000→t.length≤140737488355328→A9 Tryz.prog 160 1 (EW s t left) [.ref 0 0,.i d] 1 (EW s (N9 s d left t).t (N9 s d left t).left) (.tup [G9 (N9 s d left t).c,.b (N9 s d left t).ok]):=by
 intro d
 induction d with
 |zero =>
  intro _ left t hl lk ht
  unfold N9
  unfold wd at hl
  refine G4 Tryz.func160 66 fun E h0=>?_
  repeat'((first|refine S2 ?_|(refine T6 ?_ ?_<;>intro h<;>try exact V1 h)|intro el ke kg|intro el ke|exact T4|refine T5 ?_ ?_|intro ex)<;>try conv=>whnf)
  all_goals first
   |exact C9 (rvs:=[.cell 4 Q6,.tmp 5]) (vs:=[_,_]) ⟨1,_,_,rfl,rfl,inferInstance,rfl,rfl,trivial⟩ rfl rfl (B4 (H4 4 _ rfl (I4 0 0 0 0 0)) (B2 h0)) rfl
 |succ d ih =>
  intro hd left t hl lk ht
  have e1:(((d+1:Nat):Int)-1)=(d:Int):=by omega
  have ih:=ih (by omega)
  rw[←e1]at ih
  unfold wd at hl
  have hw:=Mk d
  have qq:=fun u (hu:u.length≤t.length)=>Xz s d (by omega) (fun l u=>N9 s d l u) (UL s d) u (left-1) (by omega) (by omega) (by omega) ih
  unfold N9
  by_cases h1:left-1<0
  ·rw[if_pos h1]
   refine G4 Tryz.func160 66 fun E h0=>?_
   repeat'((first|refine S2 ?_|(refine T6 ?_ ?_<;>intro h<;>try exact V1 h)|intro el ke kg|intro el ke|exact T4|refine T5 ?_ ?_|intro ex)<;>try conv=>whnf)
   all_goals first
    |exact C9 (rvs:=[.cell 4 Q6,.tmp 5]) (vs:=[_,_]) ⟨1,_,_,rfl,rfl,inferInstance,rfl,rfl,trivial⟩ rfl rfl (B4 (H4 4 _ rfl (I4 0 0 0 0 0)) (B2 h0)) rfl
    |(exfalso;omega)
  rw[if_neg h1]
  have r1:=a7 s t [40] (left-1) (by omega) (by decide)
  rcases Ao [40] t with e2|⟨u,e2,hu⟩
  case inr =>
   rw[e2]at r1 ⊢
   dsimp only at r1 ⊢
   rw[if_pos rfl]
   have r2:=qq u hu
   generalize At (fun l u=>N9 s d l u) (left-1) u=a at *
   obtain⟨ac,tZ,at',al⟩:=a
   dsimp only at *
   refine G4 Tryz.func160 66 fun E h0=>?_
   repeat'((first|refine⟨C4 [0] [0] r1 rfl rfl rfl rfl rfl ⟨rfl,trivial⟩ rfl rfl rfl rfl rfl ?_⟩|refine⟨C4 [0] [0] r2 rfl rfl rfl rfl rfl ⟨rfl,trivial⟩ rfl rfl rfl rfl rfl ?_⟩ |refine S2 ?_|(refine T6 ?_ ?_<;>intro h<;>try exact V1 h)|intro el ke kg|intro el ke|exact T4|refine T5 ?_ ?_|intro ex)<;>try conv=>whnf)
   all_goals first
    |exact C9 (rvs:=[.cell 4 Q6,.tmp 5]) (vs:=[_,_]) ⟨1,_,_,rfl,rfl,inferInstance,rfl,rfl,trivial⟩ rfl rfl (B2 h0) rfl
    |(exfalso;omega)
  clear qq
  rw[e2]at r1 ⊢
  dsimp only at r1 ⊢
  rw[if_neg Bool.false_ne_true]
  have r2:=a7 s t L4 (left-1) (by omega) (by decide)
  rcases Ao L4 t with e3|⟨u,e3,hu⟩
  case inr =>
   rw[e3]at r2 ⊢
   dsimp only at r2 ⊢
   rw[if_pos rfl]
   have r3:=ih (left-1) u (by omega) (by omega) (by omega)
   generalize N9 s d (left-1) u=a at *
   obtain⟨ac,tZ,at',al⟩:=a
   dsimp only at *
   refine G4 Tryz.func160 66 fun E h0=>?_
   repeat'((first|refine⟨C4 [0] [0] r1 rfl rfl rfl rfl rfl ⟨rfl,trivial⟩ rfl rfl rfl rfl rfl ?_⟩|refine⟨C4 [0] [0] r2 rfl rfl rfl rfl rfl ⟨rfl,trivial⟩ rfl rfl rfl rfl rfl ?_⟩|refine⟨C4 [0] [0] r3 rfl rfl rfl rfl rfl ⟨rfl,trivial⟩ rfl rfl rfl rfl rfl ?_⟩ |refine S2 ?_|(refine T6 ?_ ?_<;>intro h<;>try exact V1 h)|intro el ke kg|intro el ke|exact T4|refine T5 ?_ ?_|intro ex)<;>try conv=>whnf)
   all_goals first
    |exact C9 (rvs:=[.cell 4 Q6,.tmp 5]) (vs:=[_,_]) ⟨1,_,_,rfl,rfl,inferInstance,rfl,rfl,trivial⟩ rfl rfl (B4 (H4 4 _ rfl (RX 7 ac)) (B2 h0)) rfl
    |(exfalso;omega)
  rw[e3]at r2 ⊢
  dsimp only at r2 ⊢
  rw[if_neg Bool.false_ne_true]
  have r3:=JG s t (left-1) (by omega)
  have mK:=J7 L1 t
  generalize t.takeWhile L1=w at *
  generalize t.dropWhile L1=r at *
  by_cases h2:w=u7
  ·rw[if_pos h2]
   subst h2
   refine G4 Tryz.func160 66 fun E h0=>?_
   repeat'((first|refine⟨C4 [0] [0] r1 rfl rfl rfl rfl rfl ⟨rfl,trivial⟩ rfl rfl rfl rfl rfl ?_⟩|refine⟨C4 [0] [0] r2 rfl rfl rfl rfl rfl ⟨rfl,trivial⟩ rfl rfl rfl rfl rfl ?_⟩|refine⟨C4 [0] [0] r3 rfl rfl rfl rfl rfl ⟨rfl,trivial⟩ rfl rfl rfl rfl rfl ?_⟩ |refine S2 ?_|(refine T6 ?_ ?_<;>intro h<;>try exact V1 h)|intro el ke kg|intro el ke|exact T4|refine T5 ?_ ?_|intro ex)<;>try conv=>whnf)
   all_goals first
    |(exfalso;omega)
    |(exfalso;exact absurd rfl (by assumption))
    |exact C9 (rvs:=[.cell 4 Q6,.tmp 5]) (vs:=[_,_]) ⟨1,_,_,rfl,rfl,inferInstance,rfl,rfl,trivial⟩ rfl rfl (B4 (H4 4 _ rfl (I4 1 0 0 0 0)) (B2 h0)) rfl
  rw[if_neg h2]
  have r4:=Ev s w
  have mB:=aa (fun c:H2=>decide (c.name=w)) s.cols 0 (Int.le_refl _)
  rw[Int.sub_zero]at mB
  unfold F0 at *
  generalize K6 (fun c:H2=>decide (c.name=w)) s.cols 0=col at *
  by_cases h3:col<0
  ·rw[if_pos h3]
   refine G4 Tryz.func160 66 fun E h0=>?_
   repeat'((first|refine⟨C4 [0] [0] r1 rfl rfl rfl rfl rfl ⟨rfl,trivial⟩ rfl rfl rfl rfl rfl ?_⟩|refine⟨C4 [0] [0] r2 rfl rfl rfl rfl rfl ⟨rfl,trivial⟩ rfl rfl rfl rfl rfl ?_⟩|refine⟨C4 [0] [0] r3 rfl rfl rfl rfl rfl ⟨rfl,trivial⟩ rfl rfl rfl rfl rfl ?_⟩|refine A0 r4 ?_ |refine S2 ?_|(refine T6 ?_ ?_<;>intro h<;>try exact V1 h)|intro el ke kg|intro el ke|exact T4|refine T5 ?_ ?_|intro ex)<;>try conv=>whnf)
   all_goals first
    |(exfalso;omega)
    |(exfalso;exact absurd (by assumption) h2)
    |exact C9 (rvs:=[.cell 4 Q6,.tmp 5]) (vs:=[_,_]) ⟨1,_,_,rfl,rfl,inferInstance,rfl,rfl,trivial⟩ rfl rfl (B4 (H4 4 _ rfl (I4 0 0 0 0 0)) (B2 h0)) rfl
  ·rw[if_neg h3]
   obtain⟨x,hx⟩:=mB (by omega)
   have r5:=WB s hr r col (left-1) x hx (by omega) (by omega)
   generalize AL s col r=a at *
   obtain⟨ac,tZ,at'⟩:=a
   dsimp only at *
   refine G4 Tryz.func160 66 fun E h0=>?_
   repeat'((first|refine⟨C4 [0] [0] r1 rfl rfl rfl rfl rfl ⟨rfl,trivial⟩ rfl rfl rfl rfl rfl ?_⟩|refine⟨C4 [0] [0] r2 rfl rfl rfl rfl rfl ⟨rfl,trivial⟩ rfl rfl rfl rfl rfl ?_⟩|refine⟨C4 [0] [0] r3 rfl rfl rfl rfl rfl ⟨rfl,trivial⟩ rfl rfl rfl rfl rfl ?_⟩|refine A0 r4 ?_|refine⟨C4 [0] [0] r5 rfl rfl rfl rfl rfl ⟨rfl,trivial⟩ rfl rfl rfl rfl rfl ?_⟩ |refine S2 ?_|(refine T6 ?_ ?_<;>intro h<;>try exact V1 h)|intro el ke kg|intro el ke|exact T4|refine T5 ?_ ?_|intro ex)<;>try conv=>whnf)
   all_goals first
    |(exfalso;omega)
    |(exfalso;exact absurd (by assumption) h2)
    |exact C9 (rvs:=[.cell 4 Q6,.tmp 5]) (vs:=[_,_]) ⟨1,_,_,rfl,rfl,inferInstance,rfl,rfl,trivial⟩ rfl rfl (B2 h0) rfl
theorem Mp:∀(r pre:List Code),scan pre r=none→∀c∈r,D8 c.name=true
 |[],_,_,c,hc=>by cases hc
 |x::r,pre,h,c,hc=>by
  unfold scan at h
  split at h
  ·cases h
  ·rename_i hn
   split at h
   ·cases h
   ·split at h
    ·cases h
    ·rcases List.mem_cons.1 hc with rfl|hc
     ·cases hb:D8 c.name
      ·exact absurd hb hn
      ·rfl
     ·exact Mp r _ h c hc
theorem JR:∀(r pre:List Code),scan pre r≠some 0
 |[],_=>by unfold scan;exact fun h=>by cases h
 |x::r,pre=>by
  unfold scan
  split
  ·exact fun h=>by cases h
  ·split
   ·exact fun h=>by cases h
   ·split
    ·exact fun h=>by cases h
    ·exact JR r _
theorem Rb{s:A5}{c:A1}(h:L0 s c=0)(ho:¬(c.op=2∨c.op=3∨c.op=4)):c.col=0:=by
 unfold L0 at h
 by_cases h1:c.op<1∨7<c.op
 ·rw[if_pos h1]at h;cases h
 rw[if_neg h1]at h
 split at h
 ·cases h
 ·rename_i h2
  omega
theorem Rc{s:A5}(h:C8 s=0):0<s.cols.length:=by
 obtain⟨_,_,_,_,h5⟩:=Q5 h
 cases hc:s.cols with
 |nil=>rw[hc]at h5;cases h5
 |cons a r=>simp
theorem JS{nm:List UInt8}{cs:List Code}(h:chk nm cs=0):∀c∈cs,D8 c.name=true:=by
 unfold chk at h
 split at h
 ·cases h
 split at h
 ·cases h
 split at h
 ·cases h
 cases hs:scan [] cs with
 |some e =>
  rw[hs]at h
  dsimp only at h
  subst h
  exact absurd hs (JR cs [])
 |none=>exact Mp cs [] hs
theorem R4{l:List UInt8}(h:D8 l=true):l.length≤16:=by
 unfold D8 at h
 simp only[Bool.and_eq_true,decide_eq_true_eq]at h
 exact h.1.1.1
theorem LN{s:A5}(hr:C8 s=0){i:Nat}{c:H2}(hc:s.cols[i]?=some c):D8 c.name=true:=by
 obtain⟨_,_,_,h4,_⟩:=Q5 hr
 have:=h4 i c hc
 unfold colE at this
 split at this
 ·cases this
 ·rename_i hn
  cases hb:D8 c.name
  ·exact absurd hb hn
  ·rfl
theorem LO{s:A5}(hr:C8 s=0){l:CL}(hl:l∈s.lists){i:Nat}{c:Code}(hc:l.2[i]?=some c):D8 c.name=true :=
 JS ((Q5 hr).2.2.1 l hl) c (List.mem_of_getElem? hc)
theorem EY:∀{l:List A1} {k:A1},k∈l→J0 k≤Z9 l
 |x::r,k,h=>by
  unfold Z9
  rcases List.mem_cons.1 h with rfl|h
  ·omega
  ·have:=EY h;omega
theorem Hu:∀{l:List A1} {x y:A1},l[0]?=some x→l[1]?=some y→J0 x+J0 y≤Z9 l
 |a::b::r,x,y,h0,h1=>by
  simp at h0 h1
  subst h0 h1
  unfold Z9 Z9
  omega
 |[_],x,y,_,h1=>by simp at h1
 |[],x,y,h0,_=>by simp at h0
theorem HC(s:A5)(c:A1):C6 s c=if c.op=2 then S9 s c.col++K3++BW s c.col c.code
  else if c.op=3 then S9 s c.col++I3++Lib.itoa c.lo++e8++Lib.itoa c.hi
  else if c.op=4 then S9 s c.col++S0
  else if c.op=5 then [40]++(c.kids.map (C6 s)).getD 0 []++K7++(c.kids.map (C6 s)).getD 1 []++[41]
  else if c.op=6 then [40]++(c.kids.map (C6 s)).getD 0 []++P1++(c.kids.map (C6 s)).getD 1 []++[41]
  else if c.op=7 then L4++(c.kids.map (C6 s)).getD 0 []
  else u7:=by
 cases c
 rw[C6,Fb]
 rfl
theorem Hv(s:A5)(hr:C8 s=0)(c:A1):j7 s c=0→J0 c≤1000→A4 Tryz.prog 113 [sA s,G9 c] (.str (C6 s c))∧(C6 s c).length≤100*J0 c:=by
 refine T8 (p:=fun c=>j7 s c=0→J0 c≤1000→A4 Tryz.prog 113 [sA s,G9 c] (.str (C6 s c))∧(C6 s c).length≤100*J0 c) (fun c ih h ht=>?_) c
 obtain⟨h1,h2⟩:=Ew h
 obtain⟨p1,p2,p3,p4,p5,p6⟩:=DL h1
 obtain⟨k1,k2,k3⟩:=Gw c.op
 have nJ:∀k,k∈c.kids→A4 Tryz.prog 113 [sA s,G9 k] (.str (C6 s k))∧(C6 s k).length≤100*J0 k:=fun k hk=>by
  have:=EY hk
  rw[BK]at ht
  exact ih k hk (h2 k hk) (by omega)
 have lz:∃x,s.cols[c.col.toNat]?=some x∧0≤c.col:=by
  by_cases ho:c.op=2∨c.op=3∨c.op=4
  ·have:=p3 ho
   exact⟨_,List.getElem?_eq_getElem (by omega),by omega⟩
  ·have hz:=Rb h1 (by omega)
   have:=Rc hr
   exact⟨_,List.getElem?_eq_getElem (by omega),by omega⟩
 obtain⟨x,hx,qf⟩:=lz
 have lZ:=R4 (LN hr hx)
 rw[BK]at ht ⊢
 rw[HC]
 unfold S9 BW
 rw[D4 hx]at p4 ⊢
 rw[T7]at *
 by_cases o2:c.op=2
 ·rw[if_pos o2]
  obtain⟨hk,oq⟩:=p4 o2
  have hl:=AA.lst hr (List.mem_of_getElem? hx) hk
  obtain⟨lx,lr⟩:∃l,s.lists[x.lst.toNat]?=some l:=⟨_,List.getElem?_eq_getElem (by omega)⟩
  rw[M8 lr]at oq ⊢
  obtain⟨cd,rI⟩:∃d,lx.2[c.code.toNat]?=some d:=⟨_,List.getElem?_eq_getElem (by omega)⟩
  rw[S5 rI]
  have qU:=R4 (LO hr (List.mem_of_getElem? lr) rI)
  refine⟨?_,by simp only[List.length_append,List.length_cons,List.length_nil];omega⟩
  refine D0 Tryz.func113 99 fun ki E h0=>?_
  clear ki
  repeat'((first|(refine A2 (x:=x) hx (by omega) ?_)|(refine A2 (x:=lx) lr (by omega) ?_)|(refine A2 (x:=cd) rI (by omega) ?_)|(refine E0 ?_ ?_;(show x.name.length+7≤9223372036854775807;omega))|(refine E0 ?_ ?_;(rw[List.length_append];show x.name.length+7+cd.name.length≤9223372036854775807;omega))|(refine I6 ?_ ?_;kernel_rfl) |refine S2 ?_|(refine T6 ?_ ?_<;>intro h<;>try exact V1 h)|intro el ke kg|intro el ke|exact T4|refine T5 ?_ ?_|intro ex)<;>try conv=>whnf)
  all_goals first
   |exact A3 rfl rfl
   |(exfalso;omega)
 rw[if_neg o2]
 by_cases o3:c.op=3
 ·rw[if_pos o3]
  obtain⟨_,q1,q2,q3⟩:=p5 o3
  have l1:=Lib.itoa_length_le c.lo (by omega) (by omega)
  have l2:=Lib.itoa_length_le c.hi (by omega) (by omega)
  have r1:=P3 c.lo (by omega) (by omega)
  have r2:=P3 c.hi (by omega) (by omega)
  refine⟨?_,by simp only[List.length_append,List.length_cons,List.length_nil];omega⟩
  refine D0 Tryz.func113 99 fun ki E h0=>?_
  clear ki
  generalize Lib.itoa c.lo=zl at *
  generalize Lib.itoa c.hi=zh at *
  repeat'((first|(refine A2 (x:=x) hx (by omega) ?_)|refine A0 r1 ?_|refine A0 r2 ?_|(refine E0 ?_ ?_;(show x.name.length+6≤9223372036854775807;omega))|(refine E0 ?_ ?_;(rw[List.length_append];show x.name.length+6+zl.length≤9223372036854775807;omega))|(refine E0 ?_ ?_;(rw[List.length_append,List.length_append];show x.name.length+6+zl.length+4≤9223372036854775807;omega))|(refine E0 ?_ ?_;(rw[List.length_append,List.length_append,List.length_append];show x.name.length+6+zl.length+4+zh.length≤9223372036854775807;omega))|(refine I6 ?_ ?_;kernel_rfl) |refine S2 ?_|(refine T6 ?_ ?_<;>intro h<;>try exact V1 h)|intro el ke kg|intro el ke|exact T4|refine T5 ?_ ?_|intro ex)<;>try conv=>whnf)
  all_goals first
   |exact A3 rfl rfl
   |(exfalso;omega)
 rw[if_neg o3]
 by_cases o4:c.op=4
 ·rw[if_pos o4]
  refine⟨?_,by simp only[List.length_append,List.length_cons,List.length_nil];omega⟩
  refine D0 Tryz.func113 99 fun ki E h0=>?_
  clear ki
  repeat'((first|(refine A2 (x:=x) hx (by omega) ?_)|(refine E0 ?_ ?_;(show x.name.length+8≤9223372036854775807;omega)) |refine S2 ?_|(refine T6 ?_ ?_<;>intro h<;>try exact V1 h)|intro el ke kg|intro el ke|exact T4|refine T5 ?_ ?_|intro ex)<;>try conv=>whnf)
  all_goals first
   |exact A3 rfl rfl
   |(exfalso;omega)
 rw[if_neg o4]
 by_cases o5:c.op=5
 ·rw[if_pos o5]
  have lJ:=k1 (.inl o5)
  obtain⟨a,ha⟩:∃a,c.kids[0]?=some a:=⟨_,List.getElem?_eq_getElem (by omega)⟩
  obtain⟨b,hb⟩:∃b,c.kids[1]?=some b:=⟨_,List.getElem?_eq_getElem (by omega)⟩
  obtain⟨r1,l1⟩:=nJ a (List.mem_of_getElem? ha)
  obtain⟨r2,l2⟩:=nJ b (List.mem_of_getElem? hb)
  have qI:=Hu ha hb
  rw[S5 (l:=c.kids.map (C6 s)) (k:=0) (x:=C6 s a) (by simp[ha]),S5 (l:=c.kids.map (C6 s)) (k:=1) (x:=C6 s b) (by simp[hb])]
  generalize C6 s a=za at *
  generalize C6 s b=zb at *
  refine⟨?_,by simp only[List.length_append,List.length_cons,List.length_nil];omega⟩
  refine D0 Tryz.func113 99 fun ki E h0=>?_
  clear ki
  repeat'((first|(refine A2 (x:=x) hx (by omega) ?_)|(refine A2 (x:=a) ha (by decide) ?_)|(refine A2 (x:=b) hb (by decide) ?_)|refine A0 r1 ?_|refine A0 r2 ?_|(refine E0 ?_ ?_;(show 1+za.length≤9223372036854775807;omega))|(refine E0 ?_ ?_;(rw[List.length_append];show 1+za.length+5≤9223372036854775807;omega))|(refine E0 ?_ ?_;(rw[List.length_append,List.length_append];show 1+za.length+5+zb.length≤9223372036854775807;omega))|(refine E0 ?_ ?_;(rw[List.length_append,List.length_append,List.length_append];show 1+za.length+5+zb.length+1≤9223372036854775807;omega))|(refine I6 ?_ ?_;kernel_rfl) |refine S2 ?_|(refine T6 ?_ ?_<;>intro h<;>try exact V1 h)|intro el ke kg|intro el ke|exact T4|refine T5 ?_ ?_|intro ex)<;>try conv=>whnf)
  all_goals first
   |exact A3 rfl rfl
   |(exfalso;omega)
 rw[if_neg o5]
 by_cases o6:c.op=6
 ·rw[if_pos o6]
  have lJ:=k1 (.inr o6)
  obtain⟨a,ha⟩:∃a,c.kids[0]?=some a:=⟨_,List.getElem?_eq_getElem (by omega)⟩
  obtain⟨b,hb⟩:∃b,c.kids[1]?=some b:=⟨_,List.getElem?_eq_getElem (by omega)⟩
  obtain⟨r1,l1⟩:=nJ a (List.mem_of_getElem? ha)
  obtain⟨r2,l2⟩:=nJ b (List.mem_of_getElem? hb)
  have qI:=Hu ha hb
  rw[S5 (l:=c.kids.map (C6 s)) (k:=0) (x:=C6 s a) (by simp[ha]),S5 (l:=c.kids.map (C6 s)) (k:=1) (x:=C6 s b) (by simp[hb])]
  generalize C6 s a=za at *
  generalize C6 s b=zb at *
  refine⟨?_,by simp only[List.length_append,List.length_cons,List.length_nil];omega⟩
  refine D0 Tryz.func113 99 fun ki E h0=>?_
  clear ki
  repeat'((first|(refine A2 (x:=x) hx (by omega) ?_)|(refine A2 (x:=a) ha (by decide) ?_)|(refine A2 (x:=b) hb (by decide) ?_)|refine A0 r1 ?_|refine A0 r2 ?_|(refine E0 ?_ ?_;(show 1+za.length≤9223372036854775807;omega))|(refine E0 ?_ ?_;(rw[List.length_append];show 1+za.length+4≤9223372036854775807;omega))|(refine E0 ?_ ?_;(rw[List.length_append,List.length_append];show 1+za.length+4+zb.length≤9223372036854775807;omega))|(refine E0 ?_ ?_;(rw[List.length_append,List.length_append,List.length_append];show 1+za.length+4+zb.length+1≤9223372036854775807;omega))|(refine I6 ?_ ?_;kernel_rfl) |refine S2 ?_|(refine T6 ?_ ?_<;>intro h<;>try exact V1 h)|intro el ke kg|intro el ke|exact T4|refine T5 ?_ ?_|intro ex)<;>try conv=>whnf)
  all_goals first
   |exact A3 rfl rfl
   |(exfalso;omega)
 rw[if_neg o6]
 by_cases o7:c.op=7
 ·rw[if_pos o7]
  have lJ:=k2 o7
  obtain⟨a,ha⟩:∃a,c.kids[0]?=some a:=⟨_,List.getElem?_eq_getElem (by omega)⟩
  obtain⟨r1,l1⟩:=nJ a (List.mem_of_getElem? ha)
  have qI:=EY (List.mem_of_getElem? ha)
  rw[S5 (l:=c.kids.map (C6 s)) (k:=0) (x:=C6 s a) (by simp[ha])]
  generalize C6 s a=za at *
  refine⟨?_,by simp only[List.length_append,List.length_cons,List.length_nil];omega⟩
  refine D0 Tryz.func113 99 fun ki E h0=>?_
  clear ki
  repeat'((first|(refine A2 (x:=x) hx (by omega) ?_)|(refine A2 (x:=a) ha (by decide) ?_)|refine A0 r1 ?_|(refine E0 ?_ ?_;(show 4+za.length≤9223372036854775807;omega))|(refine I6 ?_ ?_;kernel_rfl) |refine S2 ?_|(refine T6 ?_ ?_<;>intro h<;>try exact V1 h)|intro el ke kg|intro el ke|exact T4|refine T5 ?_ ?_|intro ex)<;>try conv=>whnf)
  all_goals first
   |exact A3 rfl rfl
   |(exfalso;omega)
 rw[if_neg o7]
 refine⟨?_,by simp only[List.length_cons,List.length_nil];omega⟩
 refine D0 Tryz.func113 99 fun ki E h0=>?_
 clear ki
 repeat'((first|(refine A2 (x:=x) hx (by omega) ?_) |refine S2 ?_|(refine T6 ?_ ?_<;>intro h<;>try exact V1 h)|intro el ke kg|intro el ke|exact T4|refine T5 ?_ ?_|intro ex)<;>try conv=>whnf)
 all_goals first
  |exact A3 rfl rfl
  |(exfalso;omega)
def GY(s:A5)(c:A1):List UInt8×Int:=if G6 s c=0 then (C6 s c,0)else ([],G6 s c)
theorem TK(s:A5)(c:A1):A4 Tryz.prog 72 [sA s,G9 c] (.tup [.str (GY s c).1,.i (GY s c).2]):=by
 have h1:=CR s c
 have h2:¬G6 s c≠0→A4 Tryz.prog 113 [sA s,G9 c] (.str (C6 s c)):=fun h=>by
  obtain⟨a,b,_,d⟩:=CA (Decidable.of_not_not h)
  exact(Hv s a c d (by omega)).1
 unfold GY
 rw[T7]at *
 refine D0 Tryz.func72 16 fun ki E h0=>?_
 clear ki
 repeat'((first|refine A0 h1 ?_|(refine A0 (h2 (by assumption)) ?_) |refine S2 ?_|(refine T6 ?_ ?_<;>intro h<;>try exact V1 h)|intro el ke kg|intro el ke|exact T4|refine T5 ?_ ?_|intro ex)<;>try conv=>whnf)
 all_goals first
  |(rw[if_neg (by omega)];exact O3 rfl rfl rfl)
  |(rw[if_pos (by omega)];exact O3 rfl rfl rfl)
theorem TL(s:A5)(t:List UInt8)(ht:t.length≤140737488355328):A4 Tryz.prog 123 [sA s,.str t] (.tup [G9 (K5 s t).1,.i (K5 s t).2]):=by
 have h1:=BJ s
 unfold K5
 by_cases hr:C8 s=0
 ·rw[if_pos hr]
  have h2:=WC s hr 10 (Nat.le_refl _) 40 t (by decide) (by decide) ht
  have h3:=fun c=>CR s c
  generalize N9 s 10 40 t=a at *
  obtain⟨ac,tZ,at',al⟩:=a
  dsimp only at *
  have h3:=h3 ac
  generalize G6 s ac=e at *
  rw[hr]at h1
  refine D0 Tryz.func123 42 fun ki E h0=>?_
  clear ki
  repeat'((first|refine A0 h1 ?_|refine⟨C4 [2] [0] h2 rfl rfl rfl rfl rfl ⟨rfl,trivial⟩ rfl rfl rfl rfl rfl ?_⟩|refine A0 h3 ?_ |refine S2 ?_|(refine T6 ?_ ?_<;>intro h<;>try exact V1 h)|intro el ke kg|intro el ke|exact T4|refine T5 ?_ ?_|intro ex)<;>try conv=>whnf)
  all_goals first
   |(rw[if_neg (fun hh=>by obtain⟨q1,q2,q3⟩:=hh;first|exact absurd q1 (by assumption)|exact absurd q3 (by assumption)|exact absurd q2 (by assumption)|(simp_all;done))];exact Gj rfl rfl rfl (I4 0 0 0 0 0) rfl (.refl _) rfl)
   |(rw[if_pos (by refine⟨?_,?_,?_⟩<;>first|assumption|(simp_all;done))];exact Gj rfl rfl rfl (.refl _) rfl (.refl _) rfl)
 ·rw[if_neg hr]
  refine D0 Tryz.func123 42 fun ki E h0=>?_
  clear ki
  repeat'((first|refine A0 h1 ?_ |refine S2 ?_|(refine T6 ?_ ?_<;>intro h<;>try exact V1 h)|intro el ke kg|intro el ke|exact T4|refine T5 ?_ ?_|intro ex)<;>try conv=>whnf)
  all_goals first
   |exact Gj rfl rfl rfl (I4 0 0 0 0 0) rfl (.refl _) rfl
   |(exfalso;contradiction)
end Go.Proofs.YtkcekccdcpmekaaGreatDoor

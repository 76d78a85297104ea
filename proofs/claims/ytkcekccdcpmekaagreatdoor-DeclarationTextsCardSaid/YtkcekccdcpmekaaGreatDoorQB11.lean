/- Chapter 8: the reference's reader: samples and lines. -/
import Derived.Test.YtkcekccdcpmekaaGreatDoorQQs6
import Derived.Test.YtkcekccdcpmekaaGreatDoorQE3
import Derived.Test.YtkcekccdcpmekaaGreatDoorQB10
import Derived.Test.YtkcekccdcpmekaaGreatDoorQB11a
import Derived.Test.YtkcekccdcpmekaaGreatDoorQB11b
import Derived.Test.YtkcekccdcpmekaaGreatDoorQB11c
import Derived.Test.YtkcekccdcpmekaaGreatDoorQB11d
set_option linter.unusedVariables false
set_option linter.unnecessarySimpa false
set_option linter.unusedSimpArgs false
set_option maxHeartbeats 64000000
namespace Go.Proofs.YtkcekccdcpmekaaGreatDoor
open Go Go.Av
attribute [local irreducible] E8 B5 E5 E1 DQ E7 E9 St.le A4 A9
set_option maxRecDepth 100000
theorem fX(s:A5)(d:G0)(t:List UInt8)(ht:t.length≤20000)(n:Nat)(hn:5≤n)(pB:d.qs.length≤20000):A9 Tryz.prog 49 1 (Ji d) [sA s,.agg (dR d 0 0),.i n,.str t] 1 [(0,some (.row D7 17 1 ((d.qs++[(L7 s t).1]).map C0)))] (.tup [.agg [.str d.prj,.str d.src,.i (A1.op d.coh),.i (A1.col d.coh),.i (A1.code d.coh),.i (A1.lo d.coh),.i (A1.hi d.coh),.sl 6 ((A1.kids d.coh).map C3),.i d.part,.i d.of,.i d.seed,.row 0 1 (d.qs.length+1)],.b ((L7 s t).2 && decide (¬(L7 s t).1.name=[]))]):=by
 have c1:=Ta s t ht
 generalize L7 s t=V at *
 obtain⟨q,ok⟩:=V
 dsimp only at c1 ⊢
 obtain⟨pr,sr,ch,pa,so,se,L⟩:=d
 dsimp only at pB ⊢
 have hqm:(L.map C0).length≤20000:=by rw[List.length_map];exact pB
 have hX:L.map C0++[C0 q]=(L++[q]).map C0:=by rw[List.map_append];rfl
 refine G4 Tryz.func49 113 fun E h0=>?_
 repeat'((first|(refine Db ?_ ?_ ?_;kernel_rfl;kernel_rfl)|refine A0 c1 ?_|(refine B6 18 ?_;refine C5 (id:=18) ⟨[(8,.ref 3 0),(9,.b (ok && decide (¬q.name=[])))],4,[(0,some (.row D7 17 1 ((L++[q]).map C0))),(3,some (.box [.str pr,.str sr,.i ch.op,.i ch.col,.i ch.code,.i ch.lo,.i ch.hi,.sl 6 (ch.kids.map C3),.i pa,.i so,.i se,.row 0 1 (L.length+1)]))]⟩ ?_ ?_) |refine S2 ?_|(refine T6 ?_ ?_<;>intro h<;>try exact V1 h)|intro el ke kg|intro el ke|exact T4|refine T5 ?_ ?_|intro ex)<;>try conv=>whnf)
 all_goals first
  |(exfalso;omega)
  |exact B0 h0 rfl ⟨rfl,congrArg (fun z:Bool=>some (AV.b z)) (by first|rfl|(simp;done)|(simp;omega)|(simp_all;done)|(simp_all;omega)),trivial⟩ ⟨⟨_,congrArg (G1.row D7 17 _) hX.symm⟩,rfl,trivial⟩ rfl rfl rfl
  |exact C9 (rvs:=[.cell 8 P9,.tmp 9]) (vs:=[_,_]) ⟨3,_,_,rfl,rfl,inferInstance,rfl,rfl,trivial⟩ rfl rfl (B2 h0) rfl
theorem WV(s:A5)(p:Pk):A4 Tryz.prog 174 [sA s,RC p] (.i (c8 s p)):=by
 have pS:=Jb s p.col
 have oc:=HD p.lev 0 (J2 s p.col)
 refine D0 Tryz.func174 30 fun ki E h0=>?_
 obtain⟨mI,lk,pA⟩:=Ch (s:=s) (ki _ (by simp))
 clear ki
 repeat'((first|refine A0 (v7 s) ?_|refine A0 pS ?_|refine A0 oc ?_|(refine I6 ?_ ?_;kernel_rfl) |refine S2 ?_|(refine T6 ?_ ?_<;>intro h<;>try exact V1 h)|intro el ke kg|intro el ke|exact T4|refine T5 ?_ ?_|intro ex)<;>try conv=>whnf)
 all_goals first
  |exact A3 rfl (congrArg AV.i (by rw[c8,if_neg (by assumption)]))
  |skip
 all_goals
  have hr:C8 s=0:=Classical.byContradiction (by assumption)
  rw[c8,if_pos hr,Gv]
  have e:J2 s p.col=U6 s p.col:=by rw[J2,if_pos hr]
  refine A3 rfl (congrArg AV.i ?_)
 all_goals first
  |(rw[if_pos (by unfold U6;rw[if_pos (by omega)];decide)];done)
  |(have hnn:0≤U6 s p.col:=by
     have:=eJ hr (column:=p.col) (by omega) (by omega)
     exact this
    first
     |(rw[if_neg (by omega),if_pos (by omega)];done)
     |(rw[if_neg (by omega),if_neg (by omega)];done))
end Go.Proofs.YtkcekccdcpmekaaGreatDoor

/- Chapter 8: the reference's reader: samples and lines. -/
import Derived.Test.YtkcekccdcpmekaaGreatDoorQQs6
import Derived.Test.YtkcekccdcpmekaaGreatDoorQE3
import Derived.Test.YtkcekccdcpmekaaGreatDoorQB10
import Derived.Test.YtkcekccdcpmekaaGreatDoorQB11a
set_option linter.unusedVariables false
set_option linter.unnecessarySimpa false
set_option linter.unusedSimpArgs false
set_option maxHeartbeats 64000000
namespace Go.Proofs.YtkcekccdcpmekaaGreatDoor
open Go Go.Av
attribute [local irreducible] E8 B5 E5 E1 DQ E7 E9 St.le A4 A9
set_option maxRecDepth 100000
theorem fT(s:A5)(d:G0)(t:List UInt8)(ht:t.length≤20000):A9 Tryz.prog 49 1 (Ji d) [sA s,.agg (dR d 0 0),.i 1,.str t] 1 (Ji d) (.tup [.agg (dR (O8 s d 1 t).1 0 0),.b (O8 s d 1 t).2]):=by
 have c1:=BX t x8 (by omega) (by decide)
 have c2:=L5 t x8 (by omega) (by decide)
 have hl:=K2 x8 t
 have c3:=HH (A8 x8 t).1 (by omega)
 have hR:O8 s d 1 t=(⟨(A8 x8 t).1,d.src,d.coh,d.part,d.of,d.seed,d.qs⟩,(A8 x8 t).2 && (decide (¬(A8 x8 t).1=[]) && (decide (¬(A8 x8 t).1=l7) && (A8 x8 t).1.all (B3 32)))):=by
  unfold O8 EP
  rw[if_pos rfl]
 rw[hR]
 clear hR
 generalize A8 x8 t=V at *
 obtain⟨x,b⟩:=V
 dsimp only at c1 c2 c3 hl ⊢
 generalize x.all (B3 32)=a at *
 obtain⟨pr,sr,ch,pa,so,se,L⟩:=d
 dsimp only
 refine G4 Tryz.func49 113 fun E h0=>?_
 repeat'((first|(refine Db ?_ ?_ ?_;kernel_rfl;kernel_rfl)|refine A0 c1 ?_|refine A0 c2 ?_|refine A0 c3 ?_|(refine B6 4 ?_;refine C5 (id:=4) ⟨[(8,.ref 3 0),(9,.b (b && (decide (¬x=[]) && (decide (¬x=l7) && a))))],4,[(0,some (.row D7 17 0 (L.map C0))),(3,some (.box [.str x,.str sr,.i ch.op,.i ch.col,.i ch.code,.i ch.lo,.i ch.hi,.sl 6 (ch.kids.map C3),.i pa,.i so,.i se,.row 0 0 L.length]))]⟩ ?_ ?_) |refine S2 ?_|(refine T6 ?_ ?_<;>intro h<;>try exact V1 h)|intro el ke kg|intro el ke|exact T4|refine T5 ?_ ?_|intro ex)<;>try conv=>whnf)
 all_goals first
  |(exfalso;omega)
  |exact B0 h0 rfl ⟨rfl,congrArg (fun z:Bool=>some (AV.b z)) (by first|rfl|(simp;done)|(simp;omega)|(simp_all;done)|(simp_all;omega)),trivial⟩ ⟨⟨_,rfl⟩,rfl,trivial⟩ rfl rfl rfl
  |exact C9 (rvs:=[.cell 8 P9,.tmp 9]) (vs:=[_,_]) ⟨3,_,_,rfl,rfl,inferInstance,rfl,rfl,trivial⟩ rfl rfl (B2 h0) rfl
end Go.Proofs.YtkcekccdcpmekaaGreatDoor

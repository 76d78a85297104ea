/- Chapter 5: the reference reads conditions, but for two in parentheses. -/
import Derived.Test.YtkcekccdcpmekaaGreatDoorQRp3
set_option linter.unusedVariables false
set_option linter.unnecessarySimpa false
set_option linter.unusedSimpArgs false
set_option maxHeartbeats 64000000
namespace Go.Proofs.YtkcekccdcpmekaaGreatDoor
open Go Go.Av
attribute [local irreducible] E8 B5 E5 E1 DQ E7 E9 St.le A4 A9
set_option maxRecDepth 100000
theorem fO(s:A5)(t:List UInt8):A4 Tryz.prog 165 [sA s,.str t,.i 11] (.tup [G9 (.mk 0 0 0 0 0 []),.str t,.b false]):=by
 refine D0 Tryz.func165 104 fun ki E h0=>?_
 clear ki
 repeat'((first|refine S2 ?_|(refine T6 ?_ ?_<;>intro h<;>try exact V1 h)|intro el ke kg|intro el ke|exact T4|refine T5 ?_ ?_|intro ex)<;>try conv=>whnf)
 all_goals first
  |exact V0 rfl rfl rfl (I4 0 0 0 0 0) rfl rfl rfl
  |(exfalso;omega)
theorem ir(s:A5)(t rt:List UInt8)(x:A1)(ok:Bool)(dp:Int)(nQ:dp≤10∧0≤dp)(e2:4≤t.length)
  (p1:A4 Tryz.prog 92 [.str t,.str L4] (.b true))
  (r1:A4 Tryz.prog 165 [sA s,.str ((t.take ((t.length:Nat):Int).toNat).drop (4:Int).toNat),.i (dp+1)] (.tup [G9 x,.str rt,.b ok])) :
  A4 Tryz.prog 165 [sA s,.str t,.i dp] (.tup [G9 (.mk 7 0 0 0 0 [x]),.str rt,.b ok]):=by
 refine D0 Tryz.func165 104 fun ki E h0=>?_
 clear ki
 repeat'((first|refine S2 ?_|(refine T6 ?_ ?_<;>intro h<;>try exact V1 h)|intro el ke kg|intro el ke|exact T4|refine T5 ?_ ?_|intro ex|refine A0 p1 ?_|refine A0 r1 ?_|(refine B6 4 ?_;refine F5 (id:=4) (σ':=⟨[(1,.str t),(2,.i dp),(3,.iptr (sL s)),(6,.ref 1 0)],2,[(1,some (.box AY))]⟩) (B2 h0) ?_;refine C5 (id:=4) ⟨[(6,.ref 1 0),(9,.ref 2 0),(10,.str rt),(11,.b ok)],3,[(1,some (.box AY)),(2,some (.box (I9 x)))]⟩ ?_ ?_))<;>try conv=>whnf)
 all_goals first
  |exact B0 h0 rfl ⟨rfl,rfl,rfl,rfl,trivial⟩ ⟨rfl,rfl,trivial⟩ rfl rfl rfl
  |exact V0 rfl rfl rfl (RX 7 x) rfl rfl rfl
  |(exfalso;omega)
theorem iu(s:A5)(t rt:List UInt8)(x:A1)(dp:Int)(nQ:dp≤10∧0≤dp)(e2:1≤t.length)
  (p1:A4 Tryz.prog 92 [.str t,.str L4] (.b false)) (p2:A4 Tryz.prog 92 [.str t,.str [40]] (.b true))
  (r1:A4 Tryz.prog 165 [sA s,.str ((t.take ((t.length:Nat):Int).toNat).drop (1:Int).toNat),.i (dp+1)] (.tup [G9 x,.str rt,.b false])) :
  A4 Tryz.prog 165 [sA s,.str t,.i dp] (.tup [G9 x,.str t,.b false]):=by
 refine D0 Tryz.func165 104 fun ki E h0=>?_
 clear ki
 repeat'((first|refine S2 ?_|(refine T6 ?_ ?_<;>intro h<;>try exact V1 h)|intro el ke kg|intro el ke|exact T4|refine T5 ?_ ?_|intro ex|refine A0 p1 ?_|refine A0 p2 ?_|refine A0 r1 ?_|(refine B6 7 ?_;refine F5 (id:=7) (σ':=⟨[(1,.str t),(2,.i dp),(3,.iptr (sL s)),(6,.ref 1 0)],2,[(1,some (.box AY))]⟩) (B2 h0) ?_;refine C5 (id:=7) ⟨[(1,.str t),(2,.i dp),(3,.iptr (sL s)),(6,.ref 1 0),(12,.ref 2 0),(13,.str rt),(14,.b false)],3,[(1,some (.box AY)),(2,some (.box (I9 x)))]⟩ ?_ ?_))<;>try conv=>whnf)
 all_goals first
  |exact B0 h0 rfl ⟨rfl,rfl,rfl,rfl,rfl,rfl,rfl,trivial⟩ ⟨rfl,rfl,trivial⟩ rfl rfl rfl
  |exact V0 rfl rfl rfl (.refl _) rfl rfl rfl
  |(exfalso;omega)
theorem fP(s:A5)(t rt:List UInt8)(x:A1)(dp:Int)(nQ:dp≤10∧0≤dp)(e2:1≤t.length)
  (p1:A4 Tryz.prog 92 [.str t,.str L4] (.b false)) (p2:A4 Tryz.prog 92 [.str t,.str [40]] (.b true))
  (p3:A4 Tryz.prog 92 [.str rt,.str P1] (.b false)) (p4:A4 Tryz.prog 92 [.str rt,.str K7] (.b false))
  (r1:A4 Tryz.prog 165 [sA s,.str ((t.take ((t.length:Nat):Int).toNat).drop (1:Int).toNat),.i (dp+1)] (.tup [G9 x,.str rt,.b true])) :
  A4 Tryz.prog 165 [sA s,.str t,.i dp] (.tup [G9 x,.str t,.b false]):=by
 refine D0 Tryz.func165 104 fun ki E h0=>?_
 clear ki
 repeat'((first|refine S2 ?_|(refine T6 ?_ ?_<;>intro h<;>try exact V1 h)|intro el ke kg|intro el ke|exact T4|refine T5 ?_ ?_|intro ex|refine A0 p1 ?_|refine A0 p2 ?_|refine A0 r1 ?_|refine A0 p3 ?_|refine A0 p4 ?_|(refine B6 7 ?_;refine F5 (id:=7) (σ':=⟨[(1,.str t),(2,.i dp),(3,.iptr (sL s)),(6,.ref 1 0)],2,[(1,some (.box AY))]⟩) (B2 h0) ?_;refine C5 (id:=7) ⟨[(1,.str t),(2,.i dp),(3,.iptr (sL s)),(6,.ref 1 0),(12,.ref 2 0),(13,.str rt),(14,.b true)],3,[(1,some (.box AY)),(2,some (.box (I9 x)))]⟩ ?_ ?_))<;>try conv=>whnf)
 all_goals first
  |exact B0 h0 rfl ⟨rfl,rfl,rfl,rfl,rfl,rfl,rfl,trivial⟩ ⟨rfl,rfl,trivial⟩ rfl rfl rfl
  |exact V0 rfl rfl rfl (.refl _) rfl rfl rfl
  |(exfalso;omega)
theorem iv(s:A5)(t rest:List UInt8)(dp:Int)(nQ:dp≤10∧0≤dp)(e6:3≤t.length)(e5:t.drop (3:Int).toNat=rest)
  (p1:A4 Tryz.prog 92 [.str t,.str L4] (.b false)) (p2:A4 Tryz.prog 92 [.str t,.str [40]] (.b false))
  (r3:A4 Tryz.prog 185 [.str t] (.str u7)) :
  A4 Tryz.prog 165 [sA s,.str t,.i dp] (.tup [G9 (.mk 1 0 0 0 0 []),.str rest,.b true]):=by
 refine D0 Tryz.func165 104 fun ki E h0=>?_
 clear ki
 repeat'((first|refine S2 ?_|(refine T6 ?_ ?_<;>intro h<;>try exact V1 h)|intro el ke kg|intro el ke|exact T4|refine T5 ?_ ?_|intro ex|refine A0 p1 ?_|refine A0 p2 ?_|refine A0 r3 ?_|(refine B6 18 ?_;refine C5 (id:=18) ⟨[(6,.ref 1 0),(7,.str rest),(8,.b true)],2,[(1,some (.box [.i 1,.i 0,.i 0,.i 0,.i 0,.v (.slice none 0 0)]))]⟩ ?_ ?_))<;>try conv=>whnf)
 all_goals first
  |exact B0 h0 rfl ⟨rfl,congrArg (fun z=>some (AV.str z)) (by rw[U8,e5]),rfl,trivial⟩ ⟨rfl,trivial⟩ rfl rfl rfl
  |exact V0 rfl rfl rfl (I4 1 0 0 0 0) rfl rfl rfl
  |(exfalso;omega)
theorem fQ(s:A5)(t tw rt:List UInt8)(x:A1)(ok:Bool)(dp:Int)(nQ:dp≤10∧0≤dp)(hA:tw≠u7)
  (p1:A4 Tryz.prog 92 [.str t,.str L4] (.b false)) (p2:A4 Tryz.prog 92 [.str t,.str [40]] (.b false))
  (r3:A4 Tryz.prog 185 [.str t] (.str tw))
  (r4:A4 Tryz.prog 186 [sA s,.str t] (.tup [G9 x,.str rt,.b ok])) :
  A4 Tryz.prog 165 [sA s,.str t,.i dp] (.tup [G9 x,.str rt,.b ok]):=by
 refine D0 Tryz.func165 104 fun ki E h0=>?_
 clear ki
 repeat'((first|refine S2 ?_|(refine T6 ?_ ?_<;>intro h<;>try exact V1 h)|intro el ke kg|intro el ke|exact T4|refine T5 ?_ ?_|intro ex|refine A0 p1 ?_|refine A0 p2 ?_|refine A0 r3 ?_|refine A0 r4 ?_)<;>try conv=>whnf)
 all_goals first
  |exact V0 rfl rfl rfl (.refl _) rfl rfl rfl
  |(exfalso;first|omega|contradiction)
theorem Yi(s:A5)(t rt qt:List UInt8)(x y:A1)(dp:Int)(nQ:dp≤10∧0≤dp)(e2:1≤t.length)(g4:5≤rt.length)
  (p1:A4 Tryz.prog 92 [.str t,.str L4] (.b false)) (p2:A4 Tryz.prog 92 [.str t,.str [40]] (.b true))
  (r1:A4 Tryz.prog 165 [sA s,.str ((t.take ((t.length:Nat):Int).toNat).drop (1:Int).toNat),.i (dp+1)] (.tup [G9 x,.str rt,.b true]))
  (p3:A4 Tryz.prog 92 [.str rt,.str P1] (.b false)) (p4:A4 Tryz.prog 92 [.str rt,.str K7] (.b true))
  (r2:A4 Tryz.prog 165 [sA s,.str ((rt.take ((rt.length:Nat):Int).toNat).drop (5:Int).toNat),.i (dp+1)] (.tup [G9 y,.str qt,.b true])) (p5:A4 Tryz.prog 92 [.str qt,.str [41]] (.b true)) (q2:List UInt8) (k2:1≤qt.length) (k3:qt.drop (1:Int).toNat=q2) :
  A4 Tryz.prog 165 [sA s,.str t,.i dp] (.tup [G9 (.mk 5 0 0 0 0 [x,y]),.str q2,.b true]):=by
 refine D0 Tryz.func165 104 fun ki E h0=>?_
 clear ki
 repeat'((first|refine S2 ?_|(refine T6 ?_ ?_<;>intro h<;>try exact V1 h)|intro el ke kg|intro el ke|exact T4|refine T5 ?_ ?_|intro ex|refine A0 p1 ?_|refine A0 p2 ?_|refine A0 r1 ?_|refine A0 p3 ?_|refine A0 p4 ?_|refine A0 r2 ?_|refine A0 p5 ?_|(refine B6 7 ?_;refine F5 (id:=7) (σ':=⟨[(1,.str t),(2,.i dp),(3,.iptr (sL s)),(6,.ref 1 0)],2,[(1,some (.box AY))]⟩) (B2 h0) ?_;refine C5 (id:=7) ⟨[(1,.str t),(2,.i dp),(3,.iptr (sL s)),(6,.ref 1 0),(12,.ref 2 0),(13,.str rt),(14,.b true)],3,[(1,some (.box AY)),(2,some (.box (I9 x)))]⟩ ?_ ?_)|(refine B6 13 ?_;refine F5 (id:=13) (σ':=⟨[(1,.str t),(2,.i dp),(3,.iptr (sL s)),(6,.ref 1 0),(12,.ref 2 0),(13,.str rt),(15,.i 5),(16,.i 5)],3,[(1,some (.box AY)),(2,some (.box (I9 x)))]⟩) (B2 h0) ?_;refine C5 (id:=13) ⟨[(1,.str t),(6,.ref 1 0),(12,.ref 2 0),(13,.str qt),(14,.b true),(15,.i 5),(17,.ref 3 0)],4,[(1,some (.box AY)),(2,some (.box (I9 x))),(3,some (.box (I9 y)))]⟩ ?_ ?_)|(refine B6 16 ?_;refine F5 (id:=16) (σ':=⟨[(6,.ref 1 0),(12,.iptr (I9 x)),(13,.str qt),(15,.i 5),(17,.iptr (I9 y))],4,[(1,some (.box AY))]⟩) (B2 h0) ?_;refine C5 (id:=16) ⟨[(6,.ref 1 0),(7,.str q2),(8,.b true)],4,[(1,some (.box [.i 5,.i 0,.i 0,.i 0,.i 0,.sl 6 [I9 x,I9 y]]))]⟩ ?_ ?_))<;>try conv=>whnf)
 all_goals first
  |exact B0 h0 rfl ⟨rfl,rfl,rfl,rfl,rfl,rfl,rfl,trivial⟩ ⟨rfl,rfl,trivial⟩ rfl rfl rfl
  |exact B0 h0 rfl ⟨rfl,rfl,rfl,rfl,rfl,rfl,rfl,trivial⟩ ⟨rfl,rfl,rfl,trivial⟩ rfl rfl rfl
  |exact B0 h0 rfl ⟨rfl,congrArg (fun z=>some (AV.str z)) (by rw[U8,k3]),rfl,trivial⟩ ⟨rfl,trivial⟩ rfl rfl rfl
  |exact V0 rfl rfl rfl (EX 5 x y) rfl rfl rfl
  |(exfalso;omega)
theorem bm(s:A5)(t rt qt:List UInt8)(x y:A1)(dp:Int)(nQ:dp≤10∧0≤dp)(e2:1≤t.length)(g4:5≤rt.length)
  (p1:A4 Tryz.prog 92 [.str t,.str L4] (.b false)) (p2:A4 Tryz.prog 92 [.str t,.str [40]] (.b true))
  (r1:A4 Tryz.prog 165 [sA s,.str ((t.take ((t.length:Nat):Int).toNat).drop (1:Int).toNat),.i (dp+1)] (.tup [G9 x,.str rt,.b true]))
  (p3:A4 Tryz.prog 92 [.str rt,.str P1] (.b false)) (p4:A4 Tryz.prog 92 [.str rt,.str K7] (.b true)) (ot b5:Bool) (lG:¬(ot=true∧b5=true))
  (r2:A4 Tryz.prog 165 [sA s,.str ((rt.take ((rt.length:Nat):Int).toNat).drop (5:Int).toNat),.i (dp+1)] (.tup [G9 y,.str qt,.b ot])) (p5:A4 Tryz.prog 92 [.str qt,.str [41]] (.b b5)) :
  A4 Tryz.prog 165 [sA s,.str t,.i dp] (.tup [G9 x,.str t,.b false]):=by
 refine D0 Tryz.func165 104 fun ki E h0=>?_
 clear ki
 repeat'((first|refine S2 ?_|(refine T6 ?_ ?_<;>intro h<;>try exact V1 h)|intro el ke kg|intro el ke|exact T4|refine T5 ?_ ?_|intro ex|refine A0 p1 ?_|refine A0 p2 ?_|refine A0 r1 ?_|refine A0 p3 ?_|refine A0 p4 ?_|refine A0 r2 ?_|refine A0 p5 ?_|(refine B6 7 ?_;refine F5 (id:=7) (σ':=⟨[(1,.str t),(2,.i dp),(3,.iptr (sL s)),(6,.ref 1 0)],2,[(1,some (.box AY))]⟩) (B2 h0) ?_;refine C5 (id:=7) ⟨[(1,.str t),(2,.i dp),(3,.iptr (sL s)),(6,.ref 1 0),(12,.ref 2 0),(13,.str rt),(14,.b true)],3,[(1,some (.box AY)),(2,some (.box (I9 x)))]⟩ ?_ ?_)|(refine B6 13 ?_;refine F5 (id:=13) (σ':=⟨[(1,.str t),(2,.i dp),(3,.iptr (sL s)),(6,.ref 1 0),(12,.ref 2 0),(13,.str rt),(15,.i 5),(16,.i 5)],3,[(1,some (.box AY)),(2,some (.box (I9 x)))]⟩) (B2 h0) ?_;refine C5 (id:=13) ⟨[(1,.str t),(6,.ref 1 0),(12,.ref 2 0),(13,.str qt),(14,.b ot),(15,.i 5),(17,.ref 3 0)],4,[(1,some (.box AY)),(2,some (.box (I9 x))),(3,some (.box (I9 y)))]⟩ ?_ ?_))<;>try conv=>whnf)
 all_goals first
  |exact B0 h0 rfl ⟨rfl,rfl,rfl,rfl,rfl,rfl,rfl,trivial⟩ ⟨rfl,rfl,trivial⟩ rfl rfl rfl
  |exact B0 h0 rfl ⟨rfl,rfl,rfl,rfl,rfl,rfl,rfl,trivial⟩ ⟨rfl,rfl,rfl,trivial⟩ rfl rfl rfl
  |exact V0 rfl rfl rfl (.refl _) rfl rfl rfl
  |(exfalso;simp_all;done)
  |(exfalso;omega)
theorem bn(s:A5)(t rt qt:List UInt8)(x y:A1)(dp:Int)(nQ:dp≤10∧0≤dp)(e2:1≤t.length)(g4:4≤rt.length)
  (p1:A4 Tryz.prog 92 [.str t,.str L4] (.b false)) (p2:A4 Tryz.prog 92 [.str t,.str [40]] (.b true))
  (r1:A4 Tryz.prog 165 [sA s,.str ((t.take ((t.length:Nat):Int).toNat).drop (1:Int).toNat),.i (dp+1)] (.tup [G9 x,.str rt,.b true]))
  (p3:A4 Tryz.prog 92 [.str rt,.str P1] (.b true))
  (r2:A4 Tryz.prog 165 [sA s,.str ((rt.take ((rt.length:Nat):Int).toNat).drop (4:Int).toNat),.i (dp+1)] (.tup [G9 y,.str qt,.b true])) (p5:A4 Tryz.prog 92 [.str qt,.str [41]] (.b true)) (q2:List UInt8) (k2:1≤qt.length) (k3:qt.drop (1:Int).toNat=q2) :
  A4 Tryz.prog 165 [sA s,.str t,.i dp] (.tup [G9 (.mk 6 0 0 0 0 [x,y]),.str q2,.b true]):=by
 refine D0 Tryz.func165 104 fun ki E h0=>?_
 clear ki
 repeat'((first|refine S2 ?_|(refine T6 ?_ ?_<;>intro h<;>try exact V1 h)|intro el ke kg|intro el ke|exact T4|refine T5 ?_ ?_|intro ex|refine A0 p1 ?_|refine A0 p2 ?_|refine A0 r1 ?_|refine A0 p3 ?_|refine A0 r2 ?_|refine A0 p5 ?_|(refine B6 7 ?_;refine F5 (id:=7) (σ':=⟨[(1,.str t),(2,.i dp),(3,.iptr (sL s)),(6,.ref 1 0)],2,[(1,some (.box AY))]⟩) (B2 h0) ?_;refine C5 (id:=7) ⟨[(1,.str t),(2,.i dp),(3,.iptr (sL s)),(6,.ref 1 0),(12,.ref 2 0),(13,.str rt),(14,.b true)],3,[(1,some (.box AY)),(2,some (.box (I9 x)))]⟩ ?_ ?_)|(refine B6 13 ?_;refine F5 (id:=13) (σ':=⟨[(1,.str t),(2,.i dp),(3,.iptr (sL s)),(6,.ref 1 0),(12,.ref 2 0),(13,.str rt),(15,.i 6),(16,.i 4)],3,[(1,some (.box AY)),(2,some (.box (I9 x)))]⟩) (B2 h0) ?_;refine C5 (id:=13) ⟨[(1,.str t),(6,.ref 1 0),(12,.ref 2 0),(13,.str qt),(14,.b true),(15,.i 6),(17,.ref 3 0)],4,[(1,some (.box AY)),(2,some (.box (I9 x))),(3,some (.box (I9 y)))]⟩ ?_ ?_)|(refine B6 16 ?_;refine F5 (id:=16) (σ':=⟨[(6,.ref 1 0),(12,.iptr (I9 x)),(13,.str qt),(15,.i 6),(17,.iptr (I9 y))],4,[(1,some (.box AY))]⟩) (B2 h0) ?_;refine C5 (id:=16) ⟨[(6,.ref 1 0),(7,.str q2),(8,.b true)],4,[(1,some (.box [.i 6,.i 0,.i 0,.i 0,.i 0,.sl 6 [I9 x,I9 y]]))]⟩ ?_ ?_))<;>try conv=>whnf)
 all_goals first
  |exact B0 h0 rfl ⟨rfl,rfl,rfl,rfl,rfl,rfl,rfl,trivial⟩ ⟨rfl,rfl,trivial⟩ rfl rfl rfl
  |exact B0 h0 rfl ⟨rfl,rfl,rfl,rfl,rfl,rfl,rfl,trivial⟩ ⟨rfl,rfl,rfl,trivial⟩ rfl rfl rfl
  |exact B0 h0 rfl ⟨rfl,congrArg (fun z=>some (AV.str z)) (by rw[U8,k3]),rfl,trivial⟩ ⟨rfl,trivial⟩ rfl rfl rfl
  |exact V0 rfl rfl rfl (EX 6 x y) rfl rfl rfl
  |(exfalso;omega)
theorem fR(s:A5)(t rt qt:List UInt8)(x y:A1)(dp:Int)(nQ:dp≤10∧0≤dp)(e2:1≤t.length)(g4:4≤rt.length)
  (p1:A4 Tryz.prog 92 [.str t,.str L4] (.b false)) (p2:A4 Tryz.prog 92 [.str t,.str [40]] (.b true))
  (r1:A4 Tryz.prog 165 [sA s,.str ((t.take ((t.length:Nat):Int).toNat).drop (1:Int).toNat),.i (dp+1)] (.tup [G9 x,.str rt,.b true]))
  (p3:A4 Tryz.prog 92 [.str rt,.str P1] (.b true)) (ot b5:Bool) (lG:¬(ot=true∧b5=true))
  (r2:A4 Tryz.prog 165 [sA s,.str ((rt.take ((rt.length:Nat):Int).toNat).drop (4:Int).toNat),.i (dp+1)] (.tup [G9 y,.str qt,.b ot])) (p5:A4 Tryz.prog 92 [.str qt,.str [41]] (.b b5)) :
  A4 Tryz.prog 165 [sA s,.str t,.i dp] (.tup [G9 x,.str t,.b false]):=by
 refine D0 Tryz.func165 104 fun ki E h0=>?_
 clear ki
 repeat'((first|refine S2 ?_|(refine T6 ?_ ?_<;>intro h<;>try exact V1 h)|intro el ke kg|intro el ke|exact T4|refine T5 ?_ ?_|intro ex|refine A0 p1 ?_|refine A0 p2 ?_|refine A0 r1 ?_|refine A0 p3 ?_|refine A0 r2 ?_|refine A0 p5 ?_|(refine B6 7 ?_;refine F5 (id:=7) (σ':=⟨[(1,.str t),(2,.i dp),(3,.iptr (sL s)),(6,.ref 1 0)],2,[(1,some (.box AY))]⟩) (B2 h0) ?_;refine C5 (id:=7) ⟨[(1,.str t),(2,.i dp),(3,.iptr (sL s)),(6,.ref 1 0),(12,.ref 2 0),(13,.str rt),(14,.b true)],3,[(1,some (.box AY)),(2,some (.box (I9 x)))]⟩ ?_ ?_)|(refine B6 13 ?_;refine F5 (id:=13) (σ':=⟨[(1,.str t),(2,.i dp),(3,.iptr (sL s)),(6,.ref 1 0),(12,.ref 2 0),(13,.str rt),(15,.i 6),(16,.i 4)],3,[(1,some (.box AY)),(2,some (.box (I9 x)))]⟩) (B2 h0) ?_;refine C5 (id:=13) ⟨[(1,.str t),(6,.ref 1 0),(12,.ref 2 0),(13,.str qt),(14,.b ot),(15,.i 6),(17,.ref 3 0)],4,[(1,some (.box AY)),(2,some (.box (I9 x))),(3,some (.box (I9 y)))]⟩ ?_ ?_))<;>try conv=>whnf)
 all_goals first
  |exact B0 h0 rfl ⟨rfl,rfl,rfl,rfl,rfl,rfl,rfl,trivial⟩ ⟨rfl,rfl,trivial⟩ rfl rfl rfl
  |exact B0 h0 rfl ⟨rfl,rfl,rfl,rfl,rfl,rfl,rfl,trivial⟩ ⟨rfl,rfl,rfl,trivial⟩ rfl rfl rfl
  |exact V0 rfl rfl rfl (.refl _) rfl rfl rfl
  |(exfalso;simp_all;done)
  |(exfalso;omega)
theorem bo{f:List UInt8→GJ}{t v rt:List UInt8}{x:A1}{ok:Bool}(h:f v=(x,rt,ok)):CZ f t v=if ok=true then (if (A8 P1 rt).2=true then DP f 6 x t (A8 P1 rt).1 else if (A8 K7 rt).2=true then DP f 5 x t (A8 K7 rt).1 else (x,t,false))else (x,t,false):=by
 unfold CZ
 rw[h]
theorem Um{f:List UInt8→GJ}{o:Int}{t v qt:List UInt8}{x y:A1}{ok:Bool}(h:f v=(y,qt,ok)):DP f o x t v=if ok=true∧(A8 [41] qt).2=true then (.mk o 0 0 0 0 [x,y],(A8 [41] qt).1,true)else (x,t,false):=by
 unfold DP
 rw[h]
theorem WT(s:A5)(hr:C8 s=0):∀(d:Nat),d≤10→∀(t:List UInt8),t.length≤140737488355328→A4 Tryz.prog 165 [sA s,.str t,.i (11-(d:Int))] (.tup [G9 (S4 s d t).1,.str (S4 s d t).2.1,.b (S4 s d t).2.2]):=by
 intro d
 induction d with
 |zero=>intro _ t ht;exact fO s t
 |succ d ih =>
  intro hd t ht
  have e0:(11-((d+1:Nat):Int))+1=11-(d:Int):=by omega
  have ih:=ih (by omega)
  rw[←e0]at ih
  have nQ:(11-((d+1:Nat):Int))≤10∧0≤(11-((d+1:Nat):Int)):=by omega
  have kf:=UT s d
  generalize (11-((d+1:Nat):Int))=dp at *
  have p1:=L5 t L4 (by omega) (by decide)
  have p2:=L5 t [40] (by omega) (by decide)
  unfold S4
  by_cases hN:(A8 L4 t).2=true
  ·rw[if_pos hN]
   obtain⟨e1,e2⟩:=AR hN
   rw[hN]at p1
   have vX:(A8 L4 t).1.length≤t.length:=by rw[e1];simp
   have r1:=ih (A8 L4 t).1 (by omega)
   have hs:.str (A8 L4 t).1=AV.str ((t.take ((t.length:Nat):Int).toNat).drop (4:Int).toNat):=by rw[U8,e1];rfl
   rw[hs]at r1
   exact ir s t _ _ _ dp nQ e2 p1 r1
  rw[if_neg hN]
  rw[show (A8 L4 t).2=false from eq_false_of_ne_true hN]at p1
  by_cases hP:(A8 [40] t).2=true
  ·rw[if_pos hP]
   obtain⟨e1,e2⟩:=AR hP
   rw[hP]at p2
   have vX:(A8 [40] t).1.length≤t.length:=by rw[e1];simp
   have r1:=ih (A8 [40] t).1 (by omega)
   have mI:=kf (A8 [40] t).1
   rcases hR:S4 s d (A8 [40] t).1 with ⟨x,rt,ok⟩
   rw[hR]at r1 mI
   rw[bo (f:=fun u=>S4 s d u) hR]
   dsimp only at r1 mI
   have hs:.str (A8 [40] t).1=AV.str ((t.take ((t.length:Nat):Int).toNat).drop (1:Int).toNat):=by rw[U8,e1];rfl
   rw[hs]at r1
   have p3:=L5 rt P1 (by omega) (by decide)
   have p4:=L5 rt K7 (by omega) (by decide)
   cases ok
   ·rw[if_neg Bool.false_ne_true]
    exact iu s t rt x dp nQ e2 p1 p2 r1
   rw[if_pos rfl]
   by_cases hO:(A8 P1 rt).2=true
   ·rw[if_pos hO]
    obtain⟨g1,g2⟩:=AR hO
    rw[hO]at p3
    have wj:(A8 P1 rt).1.length≤rt.length:=by rw[g1];simp
    have r2:=ih (A8 P1 rt).1 (by omega)
    have lk:=kf (A8 P1 rt).1
    rcases tD:S4 s d (A8 P1 rt).1 with ⟨y,qt,ot⟩
    rw[tD]at r2 lk
    rw[Um (f:=fun u=>S4 s d u) tD]
    dsimp only at r2 lk
    have hs:.str (A8 P1 rt).1=AV.str ((rt.take ((rt.length:Nat):Int).toNat).drop (4:Int).toNat):=by rw[U8,g1];rfl
    rw[hs]at r2
    have p5:=L5 qt [41] (by omega) (by decide)
    by_cases hC:ot=true∧(A8 [41] qt).2=true
    ·rw[if_pos hC]
     obtain⟨rfl,hC⟩:=hC
     obtain⟨k1,k2⟩:=AR hC
     rw[hC]at p5
     exact bn s t rt qt x y dp nQ e2 g2 p1 p2 r1 p3 r2 p5 _ k2 (by rw[k1];rfl)
    ·rw[if_neg hC]
     exact fR s t rt qt x y dp nQ e2 g2 p1 p2 r1 p3 ot _ hC r2 p5
   rw[if_neg hO]
   rw[show (A8 P1 rt).2=false from eq_false_of_ne_true hO]at p3
   by_cases hA:(A8 K7 rt).2=true
   ·rw[if_pos hA]
    obtain⟨g1,g2⟩:=AR hA
    rw[hA]at p4
    have wj:(A8 K7 rt).1.length≤rt.length:=by rw[g1];simp
    have r2:=ih (A8 K7 rt).1 (by omega)
    have lk:=kf (A8 K7 rt).1
    rcases tD:S4 s d (A8 K7 rt).1 with ⟨y,qt,ot⟩
    rw[tD]at r2 lk
    rw[Um (f:=fun u=>S4 s d u) tD]
    dsimp only at r2 lk
    have hs:.str (A8 K7 rt).1=AV.str ((rt.take ((rt.length:Nat):Int).toNat).drop (5:Int).toNat):=by rw[U8,g1];rfl
    rw[hs]at r2
    have p5:=L5 qt [41] (by omega) (by decide)
    by_cases hC:ot=true∧(A8 [41] qt).2=true
    ·rw[if_pos hC]
     obtain⟨rfl,hC⟩:=hC
     obtain⟨k1,k2⟩:=AR hC
     rw[hC]at p5
     exact Yi s t rt qt x y dp nQ e2 g2 p1 p2 r1 p3 p4 r2 p5 _ k2 (by rw[k1];rfl)
    ·rw[if_neg hC]
     exact bm s t rt qt x y dp nQ e2 g2 p1 p2 r1 p3 p4 ot _ hC r2 p5
   rw[if_neg hA]
   rw[show (A8 K7 rt).2=false from eq_false_of_ne_true hA]at p4
   exact fP s t rt x dp nQ e2 p1 p2 p3 p4 r1
  rw[if_neg hP]
  rw[show (A8 [40] t).2=false from eq_false_of_ne_true hP]at p2
  have r3:=Da t (by omega)
  by_cases hA:t.takeWhile J9=u7
  ·rw[if_pos hA]
   have e6:=P7 J9 t
   rw[hA]at r3 e6
   exact iv s t _ dp nQ e6 (HG J9 t (Int.toNat 3) (by rw[hA];rfl)) p1 p2 r3
  ·rw[if_neg hA]
   exact fQ s t _ _ _ _ dp nQ hA p1 p2 r3 (TX s hr t ht)
theorem TY(s:A5)(hr:C8 s=0)(t:List UInt8)(ht:t.length≤140737488355328):A4 Tryz.prog 139 [sA s,.str t] (.tup [G9 (S4 s 10 t).1,.str (S4 s 10 t).2.1,.b ((S4 s 10 t).2.2 && decide (G6 s (S4 s 10 t).1=0))]):=by
 have r1:=WT s hr 10 (by omega) t ht
 have r2:=fun c=>Bs s c
 generalize S4 s 10 t=R at *
 obtain⟨x,rt,ok⟩:=R
 dsimp only at *
 have r2:=r2 x
 generalize G6 s x=e at *
 refine D0 Tryz.func139 26 fun ki E h0=>?_
 clear ki
 repeat'((first|refine A0 r1 ?_|refine A0 r2 ?_|(refine B6 2 ?_;refine F5 (id:=2) (σ':=⟨[(2,.iptr (sL s)),(4,.ref 1 0),(7,.iptr (I9 x)),(8,.str rt),(9,.b ok)],3,[(1,some (.box AY))]⟩) (B2 h0) ?_;refine Bg (id:=2) ⟨[(4,.ref 1 0),(5,.str rt),(6,.b (ok && decide (e=0)))],3,[(1,some (.box (I9 x)))]⟩ ?_ ?_) |refine S2 ?_|(refine T6 ?_ ?_<;>intro h<;>try exact V1 h)|intro el ke kg|intro el ke|exact T4|refine T5 ?_ ?_|intro ex)<;>try conv=>whnf)
 all_goals first
  |exact B0 h0 rfl ⟨rfl,rfl,congrArg (fun z=>some (AV.b z)) (by simp_all),trivial⟩ ⟨rfl,trivial⟩ rfl rfl rfl
  |exact V0 rfl rfl rfl (.refl _) rfl rfl rfl
theorem AU(s:A5)(t:List UInt8)(ht:t.length≤140737488355328):A4 Tryz.prog 94 [sA s,.str t] (.tup [G9 (K5 s t).1,.i (K5 s t).2]):=by
 rw[←eQ]
 have h1:=v7 s
 unfold Pi
 by_cases hr:C8 s=0
 ·rw[if_pos hr]
  have h2:=TY s hr t ht
  generalize S4 s 10 t=R at *
  obtain⟨x,rt,ok⟩:=R
  dsimp only at *
  generalize G6 s x=e at *
  rw[hr]at h1
  refine D0 Tryz.func94 31 fun ki E h0=>?_
  clear ki
  repeat'((first|refine A0 h1 ?_|refine A0 h2 ?_ |refine S2 ?_|(refine T6 ?_ ?_<;>intro h<;>try exact V1 h)|intro el ke kg|intro el ke|exact T4|refine T5 ?_ ?_|intro ex)<;>try conv=>whnf)
  all_goals first
   |(rw[if_neg (fun hh=>by obtain⟨⟨q1,q2⟩,q3⟩:=hh;simp_all;done)];exact Gj rfl rfl rfl (I4 0 0 0 0 0) rfl (.refl _) rfl)
   |(rw[if_pos (by simp_all;done)];exact Gj rfl rfl rfl (.refl _) rfl (.refl _) rfl)
   |(exfalso;first|contradiction|omega)
 ·rw[if_neg hr]
  refine D0 Tryz.func94 31 fun ki E h0=>?_
  clear ki
  repeat'((first|refine A0 h1 ?_ |refine S2 ?_|(refine T6 ?_ ?_<;>intro h<;>try exact V1 h)|intro el ke kg|intro el ke|exact T4|refine T5 ?_ ?_|intro ex)<;>try conv=>whnf)
  all_goals first
   |exact Gj rfl rfl rfl (I4 0 0 0 0 0) rfl (.refl _) rfl
   |(exfalso;contradiction)
end Go.Proofs.YtkcekccdcpmekaaGreatDoor

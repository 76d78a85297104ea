/- Chapter 19: rows are drawn. -/
import Derived.Test.YtbhegmcbpolemaaDoorRJw1
import Derived.Test.YtbhegmcbpolemaaDoorRJw0
import Derived.Test.YtbhegmcbpolemaaDoorRAvTy
import Derived.Test.YtbhegmcbpolemaaDoorRE3
import Derived.Test.YtbhegmcbpolemaaDoorRJm4
set_option linter.unusedVariables false
set_option linter.unnecessarySimpa false
set_option linter.unusedSimpArgs false
namespace Go.Proofs.YtbhegmcbpolemaaDoor
open Go Go.Av
attribute [local irreducible] E2 B3 F6 E9 DQ G2 H3 St.le B4 D7
set_option maxRecDepth 100000
theorem Nw {P:Program} {E:Env} {n:Nat} {ops:Array Oper} {rest:List Oper} {σ:St} {K:St → Prop} {d:Option Nat} {T m t:Nat} {ty:TypeId} {pos:String} {after:Array Edge} {i ver len:Nat} (hx:Go.Av.look σ.sl t = some (.row i ver len)) (h:B3 P E n ops (⟨d, .buildSlice T m #[(0, .tmp t)],ty,pos,after,none⟩ :: rest) (σ.frz i) K) :
  B3 P E n ops (⟨d, .buildSlice T m #[(0, .tmp t)],ty,pos,after,none⟩ :: rest) σ K:=IY (Gh i) h
end Go.Proofs.YtbhegmcbpolemaaDoor
namespace Go.Proofs.YtbhegmcbpolemaaDoor
open Go Go.Av
attribute [local irreducible] E2 B3 F6 E9 DQ G2 H3 St.le B4 D7
set_option maxRecDepth 100000
theorem Qg:O2 [[1,0],[3,1],[5,2]] = (0,⟨[(1,1),(2,1)],(0,1),(8,1),3,1⟩):=by kernel_rfl
theorem Qh:O2 [[1,2],[3,2]] = (15,zM):=by kernel_rfl
theorem Qi:KN [[1,2]] = [[1,2],[2,4]]:=by kernel_rfl
set_option maxHeartbeats 16000000 in
theorem Hj:B4 Tryd.prog 11 [] (.b true):=by
 have c1:=(w4 [[1,0],[3,1],[5,2]]).congr (congrArg Nq Qg)
 have c2:=(w4 [[1,2],[3,2]]).congr (congrArg Nq Qh)
 have c3:=(Lw [[1,2]]).congr (congrArg D1 Qi)
 have c4:=(IK [[1,2],[2,4]] [[1,2],[2,4]]).congr (congrArg AV.b (decide_eq_true rfl))
 have c5:=(KQ [(1,1),(2,1)] [(1,1),(2,1)]).congr (congrArg AV.b (decide_eq_true rfl))
 refine E4 Tryd.func11 65 fun hrd E h0=>?_
 clear hrd
 repeat' ((first | refine A5 c1 ?_ | refine A5 c2 ?_ | refine A5 c3 ?_ | refine A5 c4 ?_ | refine A5 c5 ?_ | (refine Q4 ?_ ?_;kernel_rfl) |refine A6 ?_|refine S1 ?_|refine Z1 ?_|refine Z2 ?_|(refine And.intro ?_ ?_<;>intro h<;>try first|(exfalso;omega)|exact absurd rfl h)|refine Z3 ?_|refine Z4 ?_|intro el hel hbB|intro el hel|intro ex|refine Z5 ?_|(refine B2 ?_ ?_;exact ⟨by kernel_rfl,by decide⟩)|refine B0 ?_ ?_|exact A9|refine A8 ?_ ?_|exact A7|(refine A3 ?_ ?_ ?_;kernel_rfl;kernel_rfl)) <;> (try (conv=>whnf)))
 all_goals first
  | exact C2 rfl rfl
  | (exfalso;omega)
end Go.Proofs.YtbhegmcbpolemaaDoor
namespace Go.Proofs.YtbhegmcbpolemaaDoor
open Go Go.Av
set_option maxRecDepth 100000
theorem Qj {a:AV} (h:Z7 Tryd.prog 22 a):∃ l:List UInt8,l.length ≤ maxLen ∧ a = .sl 1 (l.map Ad):=LM Tryd.underlying22 Tryd.underlying5 (by kernel_rfl) h
end Go.Proofs.YtbhegmcbpolemaaDoor

/- Chapter 19: the example of the chapter. -/
import Derived.Test.YtbhegmcbpolemaaDoorQJw0
import Derived.Test.YtbhegmcbpolemaaDoorQJm4
set_option linter.unusedVariables false
set_option linter.unnecessarySimpa false
set_option linter.unusedSimpArgs false
namespace Go.Proofs.YtbhegmcbpolemaaDoor
open Go Go.Av
attribute [local irreducible] E2 B3 G0 F3 DQ H4 H7 St.le B7 E1
set_option maxRecDepth 100000
theorem Py:Y4 [[1,0],[3,1],[5,2]] = (0,⟨[(1,1),(2,1)],(0,1),(8,1),3,1⟩):=by kernel_rfl
theorem Pz:Y4 [[1,2],[3,2]] = (15,zM):=by kernel_rfl
theorem QA:Jh [[1,2]] = [[1,2],[2,4]]:=by kernel_rfl
set_option maxHeartbeats 16000000 in
theorem HE:B7 Tryd.prog 11 [] (.b true):=by
 have c1:=(DA [[1,0],[3,1],[5,2]]).congr (congrArg NA Py)
 have c2:=(DA [[1,2],[3,2]]).congr (congrArg NA Pz)
 have c3:=(LJ [[1,2]]).congr (congrArg D3 QA)
 have c4:=(Hh [[1,2],[2,4]] [[1,2],[2,4]]).congr (congrArg AV.b (decide_eq_true rfl))
 have c5:=(Jl [(1,1),(2,1)] [(1,1),(2,1)]).congr (congrArg AV.b (decide_eq_true rfl))
 refine F0 Tryd.func11 65 fun hrd E h0=>?_
 clear hrd
 repeat' ((first | refine A8 c1 ?_ | refine A8 c2 ?_ | refine A8 c3 ?_ | refine A8 c4 ?_ | refine A8 c5 ?_ | (refine X5 ?_ ?_;kernel_rfl) |refine A5 ?_|refine S1 ?_|refine Z1 ?_|refine Z2 ?_|(refine And.intro ?_ ?_<;>intro h<;>try first|(exfalso;omega)|exact absurd rfl h)|refine Z3 ?_|refine Z4 ?_|intro el hel hbB|intro el hel|intro ex|refine Z5 ?_|(refine B2 ?_ ?_;exact ⟨by kernel_rfl,by decide⟩)|refine B0 ?_ ?_|exact A9|refine A7 ?_ ?_|exact A6|(refine A3 ?_ ?_ ?_;kernel_rfl;kernel_rfl)) <;> (try (conv=>whnf)))
 all_goals first
  | exact C6 rfl rfl
  | (exfalso;omega)
end Go.Proofs.YtbhegmcbpolemaaDoor

/- Chapter 19: the example of the chapter. -/
import Derived.Test.YtbhegmcbpolemaaDoorSJw0
import Derived.Test.YtbhegmcbpolemaaDoorSJm4
import Derived.Test.YtbhegmcbpolemaaDoorSAvTy
import Derived.Test.YtbhegmcbpolemaaDoorSE3
set_option linter.unusedVariables false
set_option linter.unnecessarySimpa false
set_option linter.unusedSimpArgs false
namespace Go.Proofs.YtbhegmcbpolemaaDoor
open Go Go.Av
attribute [local irreducible] E3 B5 F2 F0 DQ F5 G8 St.le B6 D3
set_option maxRecDepth 100000
theorem Qs:Y8 [[1,0],[3,1],[5,2]] = (0,⟨[(1,1),(2,1)],(0,1),(8,1),3,1⟩):=by kernel_rfl
theorem Qt:Y8 [[1,2],[3,2]] = (15,zM):=by kernel_rfl
theorem Qu:KK [[1,2]] = [[1,2],[2,4]]:=by kernel_rfl
set_option maxHeartbeats 16000000 in
theorem Ht:B6 Tryd.prog 11 [] (.b true):=by
 have c1:=(Dj [[1,0],[3,1],[5,2]]).congr (congrArg Nr Qs)
 have c2:=(Dj [[1,2],[3,2]]).congr (congrArg Nr Qt)
 have c3:=(Ls [[1,2]]).congr (congrArg C3 Qu)
 have c4:=(IW [[1,2],[2,4]] [[1,2],[2,4]]).congr (congrArg AV.b (decide_eq_true rfl))
 have c5:=(KP [(1,1),(2,1)] [(1,1),(2,1)]).congr (congrArg AV.b (decide_eq_true rfl))
 refine E1 Tryd.func11 65 fun hrd E h0=>?_
 clear hrd
 repeat' ((first | refine A4 c1 ?_ | refine A4 c2 ?_ | refine A4 c3 ?_ | refine A4 c4 ?_ | refine A4 c5 ?_ | (refine U2 ?_ ?_;kernel_rfl) |refine A6 ?_|refine S1 ?_|refine Z1 ?_|refine Z2 ?_|(refine And.intro ?_ ?_<;>intro h<;>try first|(exfalso;omega)|exact absurd rfl h)|refine Z3 ?_|refine Z4 ?_|intro el hel hbB|intro el hel|intro ex|refine Z5 ?_|(refine B2 ?_ ?_;exact ⟨by kernel_rfl,by decide⟩)|refine B0 ?_ ?_|exact A9|refine A8 ?_ ?_|exact A7|(refine A3 ?_ ?_ ?_;kernel_rfl;kernel_rfl)) <;> (try (conv=>whnf)))
 all_goals first
  | exact C1 rfl rfl
  | (exfalso;omega)
end Go.Proofs.YtbhegmcbpolemaaDoor
namespace Go.Proofs.YtbhegmcbpolemaaDoor
open Go Go.Av
set_option maxRecDepth 100000
theorem Qv {a:AV} (h:m8 Tryd.prog 22 a):∃ l:List UInt8,l.length ≤ maxLen ∧ a = .sl 1 (l.map Bj):=LL Tryd.underlying22 Tryd.underlying5 (by kernel_rfl) h
end Go.Proofs.YtbhegmcbpolemaaDoor

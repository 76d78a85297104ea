/- Chapter 19: the example of the chapter. -/
import Derived.Test.YtbhegmcbpolemaaDoorTJw0
import Derived.Test.YtbhegmcbpolemaaDoorTJm4
import Derived.Test.YtbhegmcbpolemaaDoorTAvTy
import Derived.Test.YtbhegmcbpolemaaDoorTE3
set_option linter.unusedVariables false
set_option linter.unnecessarySimpa false
set_option linter.unusedSimpArgs false
namespace Go.Proofs.YtbhegmcbpolemaaDoor
open Go Go.Av
attribute [local irreducible] E4 B6 F1 E7 DQ F6 F9 St.le B5 D4
set_option maxRecDepth 100000
theorem QO:BG [[1,0],[3,1],[5,2]] = (0,⟨[(1,1),(2,1)],(0,1),(8,1),3,1⟩):=by kernel_rfl
theorem QP:BG [[1,2],[3,2]] = (15,zM):=by kernel_rfl
theorem QQ:k7 [[1,2]] = [[1,2],[2,4]]:=by kernel_rfl
set_option maxHeartbeats 16000000 in
theorem Hf:B5 Tryd.prog 11 [] (.b true):=by
 have c1:=(DT [[1,0],[3,1],[5,2]]).congr (congrArg Jv QO)
 have c2:=(DT [[1,2],[3,2]]).congr (congrArg Jv QP)
 have c3:=(Fu [[1,2]]).congr (congrArg B7 QQ)
 have c4:=(Cv [[1,2],[2,4]] [[1,2],[2,4]]).congr (congrArg AV.b (decide_eq_true rfl))
 have c5:=(EW [(1,1),(2,1)] [(1,1),(2,1)]).congr (congrArg AV.b (decide_eq_true rfl))
 refine D1 Tryd.func11 65 fun hrd E h0=>?_
 clear hrd
 repeat' ((first | refine A4 c1 ?_ | refine A4 c2 ?_ | refine A4 c3 ?_ | refine A4 c4 ?_ | refine A4 c5 ?_ | (refine M3 ?_ ?_;kernel_rfl) |refine A5 ?_|refine S1 ?_|refine Z1 ?_|refine Z2 ?_|(refine And.intro ?_ ?_<;>intro h<;>try first|(exfalso;omega)|exact absurd rfl h)|refine Z3 ?_|refine Z4 ?_|intro el hel hbB|intro el hel|intro ex|refine Z5 ?_|(refine B0 ?_ ?_;exact ⟨by kernel_rfl,by decide⟩)|refine A9 ?_ ?_|exact A8|refine A7 ?_ ?_|exact A6|(refine A3 ?_ ?_ ?_;kernel_rfl;kernel_rfl)) <;> (try (conv=>whnf)))
 all_goals first
  | exact B9 rfl rfl
  | (exfalso;omega)
end Go.Proofs.YtbhegmcbpolemaaDoor
namespace Go.Proofs.YtbhegmcbpolemaaDoor
open Go Go.Av
set_option maxRecDepth 100000
def QR (n:Int):Prop:=-9223372036854775808 ≤ n ∧ n ≤ 9223372036854775807
theorem RP {f:Nat} {l:List AV} (h:Sh Tryd.prog f 3 l):∃ n,QR n ∧ l = [.i n]:=by
 obtain ⟨n,h1,h2⟩:=HG Tryd.underlying3 h
 exact ⟨n,wf_i64 h1,h2⟩
theorem QT {a:AV} (h:U0 Tryd.prog 22 a):∃ l:List UInt8,l.length ≤ maxLen ∧ a = .sl 1 (l.map AU):=Kv Tryd.underlying22 Tryd.underlying5 (by kernel_rfl) h
theorem Qx {a:AV} (h:U0 Tryd.prog 3 a):∃ n,QR n ∧ a = .i n:=OX Tryd.underlying3 h
end Go.Proofs.YtbhegmcbpolemaaDoor
